/- familychecklaw01_LinearSubstituteMeans, printed: the walk. -/
import Derived.Test.YtbioiodjdfcooaaDoorVGPx0
import Derived.Test.YtbioiodjdfcooaaDoorVGPx1
import Derived.Test.YtbioiodjdfcooaaDoorVGPx4
import Derived.Test.YtbioiodjdfcooaaDoorVGPx7
import Derived.Test.YtbioiodjdfcooaaDoorVGYSub
import Derived.Test.YtbioiodjdfcooaaDoorVGYSubW
import Derived.Test.YtbioiodjdfcooaaDoorVGYSubMeans
import Derived.WalkMore
namespace Go.Proofs.YtbioiodjdfcooaaDoor.P
open Go.RowKit Go.Proofs.YtbioiodjdfcooaaDoorW.PrintWords Go.Proofs.YtbioiodjdfcooaaDoorW.PrintLast Go.Proofs.YtbioiodjdfcooaaDoorW.PrintMore
set_option linter.unusedVariables false
set_option linter.unusedSimpArgs false
open Build
def familychecklaw01_LinearSubstituteMeans.T4 : Bool × List (List Nat × List Nat) := (true, [([], []), ([], []), ([], []), ([], []), ([2, 3], [2, 3]), ([4], [4]), ([0, 1, 5], [0, 1, 5]), ([6], [6]), ([7], [7]), ([7], [7]), ([], []), ([10, 8, 6, 0, 1, 2, 3, 4, 5, 6, 7, 8, 10], [8, 10]), ([9, 11, 0, 1, 2, 3, 4, 5, 6, 7, 8, 9, 10, 11], [9])])
def familychecklaw01_LinearSubstituteMeans.B4 : List Nat := [0, 0, 0, 0, 12, 28, 63, 127, 255, 255, 0, 1535, 4095]
theorem familychecklaw01_LinearSubstituteMeans.tab4 : rtab .any (opsOf Tryd.f13 4) = familychecklaw01_LinearSubstituteMeans.T4 := by kernel_rfl
theorem familychecklaw01_LinearSubstituteMeans.bits4 : waitsOk familychecklaw01_LinearSubstituteMeans.T4.2 familychecklaw01_LinearSubstituteMeans.B4 = true := by kernel_rfl
def familychecklaw01_LinearSubstituteMeans.T9 : Bool × List (List Nat × List Nat) := (true, [([], []), ([], []), ([0, 1], [0, 1]), ([], []), ([], []), ([3, 4, 2], [3, 4]), ([2, 5], [2, 5]), ([6, 5], [6]), ([7, 7], [7]), ([7, 8], [7, 8]), ([9, 8, 0, 1, 2, 3, 4, 5, 6, 7, 8, 9], [9])])
def familychecklaw01_LinearSubstituteMeans.B9 : List Nat := [0, 0, 3, 0, 0, 31, 63, 127, 255, 511, 1023]
theorem familychecklaw01_LinearSubstituteMeans.tab9 : rtab .any (opsOf Tryd.f13 9) = familychecklaw01_LinearSubstituteMeans.T9 := by kernel_rfl
theorem familychecklaw01_LinearSubstituteMeans.bits9 : waitsOk familychecklaw01_LinearSubstituteMeans.T9.2 familychecklaw01_LinearSubstituteMeans.B9 = true := by kernel_rfl
set_option maxHeartbeats 8000000 in
set_option maxRecDepth 100000 in
theorem familychecklaw01_LinearSubstituteMeans.calls (k : Nat) (a0_0 : Int) (A0_1 : Option Addr) (c0_1 : Nat) (l0_1 : List (S33)) (A1 : Option Addr) (c1 : Nat) (l1 : List Int) (a2_0 : Int) (a2_1 : Int) (r : Bool) (w : World) (hr0_1 : Kd.C k33 w A0_1 l0_1.length l0_1) (hc0_1 : l0_1.length ≤ c0_1) (hr1 : Kd.C (Kd.int .i64) w A1 l1.length l1) (hc1 : l1.length ≤ c1) (h : familychecklaw01_LinearSubstituteMeans.f k a0_0 l0_1 l1 a2_0 a2_1 = some r) :
    Calls Tryd.prog 13 #[.agg #[.int .i64 a0_0, .slice A0_1 l0_1.length c0_1], .slice A1 l1.length c1, .agg #[.int .i64 a2_0, .int .i64 a2_1]] w fun e w' => e = .returned (.bool r) ∧ Below w.heap.size w w' := by
  have hu24 := Tryd.underlying24
  have hu55 := Tryd.underlying55
  have HR0_1 := Aside0.mk hr0_1
  have HC0_1 := Aside0.mk hc0_1
  clear hr0_1 hc0_1
  have HR1 := Aside0.mk hr1
  have HC1 := Aside0.mk hc1
  clear hr1 hc1
  have HB := Aside0.mk (Below.refl w.heap.size w)
  have H : ((familychecklaw01_wide.f k a0_0 l0_1).bind fun t293 => (if t293 = true then (familychecklaw01_LinearSubstituteMeans.j0 k l1 true a0_0 l0_1 a2_0 a2_1) else (if (l1.length : Int) > 200 then (familychecklaw01_LinearSubstituteMeans.j0 k l1 true a0_0 l0_1 a2_0 a2_1) else (if (l1.length : Int) = a0_0 then (familychecklaw01_LinearSubstituteMeans.j0 k l1 ((l1.length : Int) == 0) a0_0 l0_1 a2_0 a2_1) else (familychecklaw01_LinearSubstituteMeans.j0 k l1 true a0_0 l0_1 a2_0 a2_1))))) = some r := h
  clear h
  have HC4 := Aside0.mk H
  clear H
  go_enter Tryd.func13, Tryd.ntmps13
  go_upto_region 1 with (first | ((with_reducible refine gate_dst (N := 3) rfl ?_); (try (refine gate_guard (by rfl) ?_; dsimp only)); refine box_event ?hg (N := 3) ?hd (cs := #[.int .i64 a0_0, .slice A0_1 l0_1.length c0_1]) (t := 24) ?hr ?_; (case hd => rfl); (case hg => rfl); (case hr => first | (go_simp; done) | (go_simp; rfl)); intro gb291 hg w5 hbox hb; have n0_ := Aside0.mk (below_step (by repeat (first | (with_reducible first | exact HB.out | apply below_alloc | apply pw_below_drewN | apply below_drew1) | exact HB.out)) hb); have n1_ := Aside0.mk (hbox); have n2_ := Aside0.mk ((by rw [hg]; exact (below_size (by repeat (first | (with_reducible first | exact HB.out | apply below_alloc | apply pw_below_drewN | apply below_drew1) | exact HB.out))) : w.heap.size ≤ gb291)); have n3_ := Aside0.mk ((by rw [hg]; exact (below_size (by repeat (first | (with_reducible first | exact HB.out | apply below_alloc | apply pw_below_drewN | apply below_drew1) | exact HB.out))) : w.heap.size ≤ gb291)); clear HB; have HB := n0_; have BK291 := n1_; have GW291 := n2_; have GE291 := n3_; clear n0_ n1_ n2_ n3_; clear hb hbox hg) | ((with_reducible refine gate_dst (N := 5) rfl ?_); (try (refine gate_guard (by rfl) ?_; dsimp only)); refine box_event ?hg (N := 5) ?hd (cs := #[.int .i64 a2_0, .int .i64 a2_1]) (t := 55) ?hr ?_; (case hd => rfl); (case hg => rfl); (case hr => first | (go_simp; done) | (go_simp; rfl)); intro gb292 hg w6 hbox hb; have n0_ := Aside0.mk (blk_below (g := gb291) (o := .cells #[.int .i64 a0_0, .slice A0_1 l0_1.length c0_1] 24 (0, 0)) (by (with_reducible repeat (first | refine blk_drewN ?_ _ | refine blk_drew ?_ | refine blk_alloc ?_ _)); exact BK291.out) hb); have n1_ := Aside0.mk (below_step (by repeat (first | (with_reducible first | exact HB.out | apply below_alloc | apply pw_below_drewN | apply below_drew1 | refine below_set ?_ GE291.out) | exact HB.out)) hb); have n2_ := Aside0.mk (hbox); have n3_ := Aside0.mk ((by rw [hg]; exact (below_size (by repeat (first | (with_reducible first | exact HB.out | apply below_alloc | apply pw_below_drewN | apply below_drew1 | refine below_set ?_ GE291.out) | exact HB.out))) : w.heap.size ≤ gb292)); have n4_ := Aside0.mk ((by rw [hg]; exact (below_size (by repeat (first | (with_reducible first | exact HB.out | apply below_alloc | apply pw_below_drewN | apply below_drew1 | refine below_set ?_ GE291.out) | exact HB.out))) : w.heap.size ≤ gb292)); have n5_ := Aside0.mk ((by rw [hg]; exact Nat.ne_of_lt (blk_lt (g := gb291) (o := .cells #[.int .i64 a0_0, .slice A0_1 l0_1.length c0_1] 24 (0, 0)) (by (with_reducible repeat (first | refine blk_drewN ?_ _ | refine blk_drew ?_ | refine blk_alloc ?_ _)); exact BK291.out)) : gb291 ≠ gb292)); have n6_ := Aside0.mk ((by rw [hg]; exact Nat.ne_of_gt (blk_lt (g := gb291) (o := .cells #[.int .i64 a0_0, .slice A0_1 l0_1.length c0_1] 24 (0, 0)) (by (with_reducible repeat (first | refine blk_drewN ?_ _ | refine blk_drew ?_ | refine blk_alloc ?_ _)); exact BK291.out)) : gb292 ≠ gb291)); clear BK291; clear HB; have BK291 := n0_; have HB := n1_; have BK292 := n2_; have GW292 := n3_; have GE292 := n4_; have NB291_292 := n5_; have NB292_291 := n6_; clear n0_ n1_ n2_ n3_ n4_ n5_ n6_; clear hb hbox hg))
  (try simp only [Act.put, List.setIfInBounds_toArray, List.set_cons_zero, List.set_cons_succ])
  go_cut [29] (fun v29 wc => ∃ (kq : Nat) (x29_3 : Bool), v29 = .bool x29_3 ∧ Aside0 (familychecklaw01_LinearSubstituteMeans.j0 kq l1 x29_3 a0_0 l0_1 a2_0 a2_1 = some r) ∧ Aside0 (kq ≤ k) ∧ Aside0 (wc.heap[gb291]? = some (.cells #[.int .i64 a0_0, (.slice A0_1 l0_1.length c0_1)] 24 (0, 0))) ∧ Aside0 (wc.heap[gb292]? = some (.cells #[.int .i64 a2_0, .int .i64 a2_1] 55 (0, 0))) ∧ Aside0 (Below w.heap.size w wc))
  case first =>
    have H := HC4.out
    clear HC4
    replace H := Option.bind_eq_some_iff.mp H
    obtain ⟨t293, A70, H⟩ := H
    replace H : (if t293 = true then (familychecklaw01_LinearSubstituteMeans.j0 k l1 true a0_0 l0_1 a2_0 a2_1) else (if (l1.length : Int) > 200 then (familychecklaw01_LinearSubstituteMeans.j0 k l1 true a0_0 l0_1 a2_0 a2_1) else (if (l1.length : Int) = a0_0 then (familychecklaw01_LinearSubstituteMeans.j0 k l1 ((l1.length : Int) == 0) a0_0 l0_1 a2_0 a2_1) else (familychecklaw01_LinearSubstituteMeans.j0 k l1 true a0_0 l0_1 a2_0 a2_1)))) = some r := H
    have A7 := Aside0.mk A70
    clear A70
    by_cases c8 : t293 = true
    · subst c8
      have H1 : (familychecklaw01_LinearSubstituteMeans.j0 k l1 true a0_0 l0_1 a2_0 a2_1) = some r := by rw [if_pos rfl] at H; exact H
      clear H
      have H := H1
      clear H1
      have H' := Aside0.mk H
      clear H
      have hnb9 := NB291_292.out
      have hnc9 := NB292_291.out
      have hcz10_0 : w6.cell? ⟨gb291, 0, none⟩ = some (.int .i64 a0_0) := (blk_cell BK291.out 0).trans rfl
      have hcz10_1 : w6.cell? ⟨gb291, 1, none⟩ = some (.slice A0_1 l0_1.length c0_1) := (blk_cell BK291.out 1).trans rfl
      have hfz10_0 := blk_frozen BK291.out 0
      have hfz10_1 := blk_frozen BK291.out 1
      go_wp2_with (first | ((with_reducible refine gate_callee (f := 15) rfl ?_); refine goesL_ (some 12) rfl rfl Tryd.func15 (by kernel_rfl) rfl #[.agg #[.int .i64 a0_0, .slice A0_1 l0_1.length c0_1]] rfl (by (try simp only [List.map_toArray, List.map_cons, List.map_nil]); first | done | rfl | (simp only [List.length_drop, List.length_take]; rfl)) ?_; (with_reducible refine (familychecklaw01_wide.calls k a0_0 _ _ l0_1 true _ ?side1 ?side2 A7.out).mono ?_); (case side1 => repeat (first | exact (Kd.C_below HR0_1.out HB.out) | (with_reducible refine Kd.C_alloc ?_ _) | (with_reducible refine Kd.C_drewN ?_ _) | (with_reducible refine Kd.C_drew ?_))); (case side2 => exact HC0_1.out); rintro e w11 ⟨rfl, hb⟩; refine ⟨_, rfl, ?_⟩; have n0_ := Aside0.mk (blk_below (g := gb291) (o := .cells #[.int .i64 a0_0, .slice A0_1 l0_1.length c0_1] 24 (0, 0)) (by (with_reducible repeat (first | refine blk_drewN ?_ _ | refine blk_drew ?_ | refine blk_alloc ?_ _)); exact BK291.out) hb); have n1_ := Aside0.mk (blk_below (g := gb292) (o := .cells #[.int .i64 a2_0, .int .i64 a2_1] 55 (0, 0)) (by (with_reducible repeat (first | refine blk_drewN ?_ _ | refine blk_drew ?_ | refine blk_alloc ?_ _)); exact BK292.out) hb); have n2_ := Aside0.mk (below_step (by repeat (first | (with_reducible first | exact HB.out | apply below_alloc | apply pw_below_drewN | apply below_drew1 | refine below_set ?_ GE291.out | refine below_set ?_ GE292.out) | exact HB.out)) hb); clear BK291; clear BK292; clear HB; have BK291 := n0_; have BK292 := n1_; have HB := n2_; clear n0_ n1_ n2_; (try clear hb); (try clear hb2); (try clear hk); (try clear hi)))
      go_meet
      case rel => exact ⟨_, (true), (by first | rfl | (simp; done) | (simp [*]; done)), H', ⟨by first | omega | exact Nat.le_refl _⟩, ⟨by (with_reducible repeat (first | refine blk_drewN ?_ _ | refine blk_drew ?_ | refine blk_alloc ?_ _)); exact BK291.out⟩, ⟨by (with_reducible repeat (first | refine blk_drewN ?_ _ | refine blk_drew ?_ | refine blk_alloc ?_ _)); exact BK292.out⟩, ⟨by repeat (first | (with_reducible first | exact HB.out | apply below_alloc | apply pw_below_drewN | apply below_drew1 | refine below_set ?_ GE291.out | refine below_set ?_ GE292.out) | exact HB.out)⟩⟩
    · replace c8 := Bool.eq_false_iff.mpr c8
      subst c8
      have H1 : (if (l1.length : Int) > 200 then (familychecklaw01_LinearSubstituteMeans.j0 k l1 true a0_0 l0_1 a2_0 a2_1) else (if (l1.length : Int) = a0_0 then (familychecklaw01_LinearSubstituteMeans.j0 k l1 ((l1.length : Int) == 0) a0_0 l0_1 a2_0 a2_1) else (familychecklaw01_LinearSubstituteMeans.j0 k l1 true a0_0 l0_1 a2_0 a2_1))) = some r := by rw [if_neg (show ¬ (false = true) by decide)] at H; exact H
      clear H
      have H := H1
      clear H1
      by_cases c12 : (l1.length : Int) > 200
      · rw [if_pos c12] at H
        have c12b0 : decide (200 < (l1.length : Int)) = true := decide_eq_true c12
        have c12b1 : decide (200 < l1.length) = true := decide_eq_true (by omega)
        clear c12
        (first | rw [c12b0] | (simp only [i64_w, i32_w]; rw [c12b0]) | skip)
        have H' := Aside0.mk H
        clear H
        have hnb13 := NB291_292.out
        have hnc13 := NB292_291.out
        have hcz14_0 : w6.cell? ⟨gb291, 0, none⟩ = some (.int .i64 a0_0) := (blk_cell BK291.out 0).trans rfl
        have hcz14_1 : w6.cell? ⟨gb291, 1, none⟩ = some (.slice A0_1 l0_1.length c0_1) := (blk_cell BK291.out 1).trans rfl
        have hfz14_0 := blk_frozen BK291.out 0
        have hfz14_1 := blk_frozen BK291.out 1
        go_wp2_with (first | ((with_reducible refine gate_callee (f := 15) rfl ?_); refine goesL_ (some 12) rfl rfl Tryd.func15 (by kernel_rfl) rfl #[.agg #[.int .i64 a0_0, .slice A0_1 l0_1.length c0_1]] rfl (by (try simp only [List.map_toArray, List.map_cons, List.map_nil]); first | done | rfl | (simp only [List.length_drop, List.length_take]; rfl)) ?_; (with_reducible refine (familychecklaw01_wide.calls k a0_0 _ _ l0_1 false _ ?side1 ?side2 A7.out).mono ?_); (case side1 => repeat (first | exact (Kd.C_below HR0_1.out HB.out) | (with_reducible refine Kd.C_alloc ?_ _) | (with_reducible refine Kd.C_drewN ?_ _) | (with_reducible refine Kd.C_drew ?_))); (case side2 => exact HC0_1.out); rintro e w15 ⟨rfl, hb⟩; refine ⟨_, rfl, ?_⟩; have n0_ := Aside0.mk (blk_below (g := gb291) (o := .cells #[.int .i64 a0_0, .slice A0_1 l0_1.length c0_1] 24 (0, 0)) (by (with_reducible repeat (first | refine blk_drewN ?_ _ | refine blk_drew ?_ | refine blk_alloc ?_ _)); exact BK291.out) hb); have n1_ := Aside0.mk (blk_below (g := gb292) (o := .cells #[.int .i64 a2_0, .int .i64 a2_1] 55 (0, 0)) (by (with_reducible repeat (first | refine blk_drewN ?_ _ | refine blk_drew ?_ | refine blk_alloc ?_ _)); exact BK292.out) hb); have n2_ := Aside0.mk (below_step (by repeat (first | (with_reducible first | exact HB.out | apply below_alloc | apply pw_below_drewN | apply below_drew1 | refine below_set ?_ GE291.out | refine below_set ?_ GE292.out) | exact HB.out)) hb); clear BK291; clear BK292; clear HB; have BK291 := n0_; have BK292 := n1_; have HB := n2_; clear n0_ n1_ n2_; (try clear hb); (try clear hb2); (try clear hk); (try clear hi)))
        go_meet
        case rel => exact ⟨_, (true), (by first | rfl | (simp; done) | (simp [*]; done)), H', ⟨by first | omega | exact Nat.le_refl _⟩, ⟨by (with_reducible repeat (first | refine blk_drewN ?_ _ | refine blk_drew ?_ | refine blk_alloc ?_ _)); exact BK291.out⟩, ⟨by (with_reducible repeat (first | refine blk_drewN ?_ _ | refine blk_drew ?_ | refine blk_alloc ?_ _)); exact BK292.out⟩, ⟨by repeat (first | (with_reducible first | exact HB.out | apply below_alloc | apply pw_below_drewN | apply below_drew1 | refine below_set ?_ GE291.out | refine below_set ?_ GE292.out) | exact HB.out)⟩⟩
      · rw [if_neg c12] at H
        have c12b0 : decide (200 < (l1.length : Int)) = false := decide_eq_false c12
        have c12b1 : decide (200 < l1.length) = false := decide_eq_false (by omega)
        clear c12
        (first | rw [c12b0] | (simp only [i64_w, i32_w]; rw [c12b0]) | skip)
        by_cases c16 : (l1.length : Int) = a0_0
        · rw [if_pos c16] at H
          have c16b0 : ((l1.length : Int) == a0_0) = true := beq_iff_eq.mpr c16
          have c16b1 : ((l1.length : Int) != a0_0) = false := bne_eq_false_iff_eq.mpr c16
          clear c16
          have H' := Aside0.mk H
          clear H
          have hnb17 := NB291_292.out
          have hnc17 := NB292_291.out
          have hcz18_0 : w6.cell? ⟨gb291, 0, none⟩ = some (.int .i64 a0_0) := (blk_cell BK291.out 0).trans rfl
          have hcz18_1 : w6.cell? ⟨gb291, 1, none⟩ = some (.slice A0_1 l0_1.length c0_1) := (blk_cell BK291.out 1).trans rfl
          have hfz18_0 := blk_frozen BK291.out 0
          have hfz18_1 := blk_frozen BK291.out 1
          go_wp2_with (first | ((with_reducible refine gate_callee (f := 15) rfl ?_); refine goesL_ (some 12) rfl rfl Tryd.func15 (by kernel_rfl) rfl #[.agg #[.int .i64 a0_0, .slice A0_1 l0_1.length c0_1]] rfl (by (try simp only [List.map_toArray, List.map_cons, List.map_nil]); first | done | rfl | (simp only [List.length_drop, List.length_take]; rfl)) ?_; (with_reducible refine (familychecklaw01_wide.calls k a0_0 _ _ l0_1 false _ ?side1 ?side2 A7.out).mono ?_); (case side1 => repeat (first | exact (Kd.C_below HR0_1.out HB.out) | (with_reducible refine Kd.C_alloc ?_ _) | (with_reducible refine Kd.C_drewN ?_ _) | (with_reducible refine Kd.C_drew ?_))); (case side2 => exact HC0_1.out); rintro e w19 ⟨rfl, hb⟩; refine ⟨_, rfl, ?_⟩; have n0_ := Aside0.mk (blk_below (g := gb291) (o := .cells #[.int .i64 a0_0, .slice A0_1 l0_1.length c0_1] 24 (0, 0)) (by (with_reducible repeat (first | refine blk_drewN ?_ _ | refine blk_drew ?_ | refine blk_alloc ?_ _)); exact BK291.out) hb); have n1_ := Aside0.mk (blk_below (g := gb292) (o := .cells #[.int .i64 a2_0, .int .i64 a2_1] 55 (0, 0)) (by (with_reducible repeat (first | refine blk_drewN ?_ _ | refine blk_drew ?_ | refine blk_alloc ?_ _)); exact BK292.out) hb); have n2_ := Aside0.mk (below_step (by repeat (first | (with_reducible first | exact HB.out | apply below_alloc | apply pw_below_drewN | apply below_drew1 | refine below_set ?_ GE291.out | refine below_set ?_ GE292.out) | exact HB.out)) hb); clear BK291; clear BK292; clear HB; have BK291 := n0_; have BK292 := n1_; have HB := n2_; clear n0_ n1_ n2_; (try clear hb); (try clear hb2); (try clear hk); (try clear hi); have hcz20_0 : w19.cell? ⟨gb291, 0, none⟩ = some (.int .i64 a0_0) := (blk_cell BK291.out 0).trans rfl; have hcz20_1 : w19.cell? ⟨gb291, 1, none⟩ = some (.slice A0_1 l0_1.length c0_1) := (blk_cell BK291.out 1).trans rfl; have hfz20_0 := blk_frozen BK291.out 0; have hfz20_1 := blk_frozen BK291.out 1))
          go_meet
          case rel => exact ⟨_, (((l1.length : Int) == 0)), (by first | rfl | (simp; done) | (simp [*]; done)), H', ⟨by first | omega | exact Nat.le_refl _⟩, ⟨by (with_reducible repeat (first | refine blk_drewN ?_ _ | refine blk_drew ?_ | refine blk_alloc ?_ _)); exact BK291.out⟩, ⟨by (with_reducible repeat (first | refine blk_drewN ?_ _ | refine blk_drew ?_ | refine blk_alloc ?_ _)); exact BK292.out⟩, ⟨by repeat (first | (with_reducible first | exact HB.out | apply below_alloc | apply pw_below_drewN | apply below_drew1 | refine below_set ?_ GE291.out | refine below_set ?_ GE292.out) | exact HB.out)⟩⟩
        · rw [if_neg c16] at H
          have c16b0 : ((l1.length : Int) == a0_0) = false := beq_eq_false_iff_ne.mpr c16
          have c16b1 : ((l1.length : Int) != a0_0) = true := bne_iff_ne.mpr c16
          have H' := Aside0.mk H
          clear H
          have hnb21 := NB291_292.out
          have hnc21 := NB292_291.out
          have hcz22_0 : w6.cell? ⟨gb291, 0, none⟩ = some (.int .i64 a0_0) := (blk_cell BK291.out 0).trans rfl
          have hcz22_1 : w6.cell? ⟨gb291, 1, none⟩ = some (.slice A0_1 l0_1.length c0_1) := (blk_cell BK291.out 1).trans rfl
          have hfz22_0 := blk_frozen BK291.out 0
          have hfz22_1 := blk_frozen BK291.out 1
          go_wp2_with (first | ((with_reducible refine gate_callee (f := 15) rfl ?_); refine goesL_ (some 12) rfl rfl Tryd.func15 (by kernel_rfl) rfl #[.agg #[.int .i64 a0_0, .slice A0_1 l0_1.length c0_1]] rfl (by (try simp only [List.map_toArray, List.map_cons, List.map_nil]); first | done | rfl | (simp only [List.length_drop, List.length_take]; rfl)) ?_; (with_reducible refine (familychecklaw01_wide.calls k a0_0 _ _ l0_1 false _ ?side1 ?side2 A7.out).mono ?_); (case side1 => repeat (first | exact (Kd.C_below HR0_1.out HB.out) | (with_reducible refine Kd.C_alloc ?_ _) | (with_reducible refine Kd.C_drewN ?_ _) | (with_reducible refine Kd.C_drew ?_))); (case side2 => exact HC0_1.out); rintro e w23 ⟨rfl, hb⟩; refine ⟨_, rfl, ?_⟩; have n0_ := Aside0.mk (blk_below (g := gb291) (o := .cells #[.int .i64 a0_0, .slice A0_1 l0_1.length c0_1] 24 (0, 0)) (by (with_reducible repeat (first | refine blk_drewN ?_ _ | refine blk_drew ?_ | refine blk_alloc ?_ _)); exact BK291.out) hb); have n1_ := Aside0.mk (blk_below (g := gb292) (o := .cells #[.int .i64 a2_0, .int .i64 a2_1] 55 (0, 0)) (by (with_reducible repeat (first | refine blk_drewN ?_ _ | refine blk_drew ?_ | refine blk_alloc ?_ _)); exact BK292.out) hb); have n2_ := Aside0.mk (below_step (by repeat (first | (with_reducible first | exact HB.out | apply below_alloc | apply pw_below_drewN | apply below_drew1 | refine below_set ?_ GE291.out | refine below_set ?_ GE292.out) | exact HB.out)) hb); clear BK291; clear BK292; clear HB; have BK291 := n0_; have BK292 := n1_; have HB := n2_; clear n0_ n1_ n2_; (try clear hb); (try clear hb2); (try clear hk); (try clear hi); have hcz24_0 : w23.cell? ⟨gb291, 0, none⟩ = some (.int .i64 a0_0) := (blk_cell BK291.out 0).trans rfl; have hcz24_1 : w23.cell? ⟨gb291, 1, none⟩ = some (.slice A0_1 l0_1.length c0_1) := (blk_cell BK291.out 1).trans rfl; have hfz24_0 := blk_frozen BK291.out 0; have hfz24_1 := blk_frozen BK291.out 1))
          go_meet
          case rel => exact ⟨_, (true), (by first | rfl | (simp; done) | (simp [*]; done)), H', ⟨by first | omega | exact Nat.le_refl _⟩, ⟨by (with_reducible repeat (first | refine blk_drewN ?_ _ | refine blk_drew ?_ | refine blk_alloc ?_ _)); exact BK291.out⟩, ⟨by (with_reducible repeat (first | refine blk_drewN ?_ _ | refine blk_drew ?_ | refine blk_alloc ?_ _)); exact BK292.out⟩, ⟨by repeat (first | (with_reducible first | exact HB.out | apply below_alloc | apply pw_below_drewN | apply below_drew1 | refine below_set ?_ GE291.out | refine below_set ?_ GE292.out) | exact HB.out)⟩⟩
  case rest =>
    clear HC4
    try clear c1
    try clear c2
    try clear p2
    try clear c8
    try clear c9
    try clear c12
    try clear c12b0
    try clear c12b1
    try clear c13
    try clear c15
    try clear c16
    try clear c16b0
    try clear c16b1
    try clear c17
    try clear c21
    try clear hcz10_0
    try clear hcz10_1
    try clear hcz14_0
    try clear hcz14_1
    try clear hcz18_0
    try clear hcz18_1
    try clear hcz20_0
    try clear hcz20_1
    try clear hcz22_0
    try clear hcz22_1
    try clear hcz24_0
    try clear hcz24_1
    try clear hfz10_0
    try clear hfz10_1
    try clear hfz14_0
    try clear hfz14_1
    try clear hfz18_0
    try clear hfz18_1
    try clear hfz20_0
    try clear hfz20_1
    try clear hfz22_0
    try clear hfz22_1
    try clear hfz24_0
    try clear hfz24_1
    obtain ⟨kq, x29_3, rfl, HA, HJ3, BK291, BK292, HB⟩ := hcut
    cases kq with
    | zero => exact absurd HA.out (by simp [familychecklaw01_LinearSubstituteMeans.j0])
    | succ kj3 =>
      have H := HA.out
      clear HA
      simp only [familychecklaw01_LinearSubstituteMeans.j0] at H
      by_cases c25 : x29_3 = true
      · subst c25
        have H1 : ((familychecklaw01_known.f kj3).bind fun t294 => (some t294)) = some r := by rw [if_pos rfl] at H; exact H
        clear H
        have H := H1
        clear H1
        replace H := Option.bind_eq_some_iff.mp H
        obtain ⟨t294, A260, H⟩ := H
        replace H : (some t294) = some r := H
        have A26 := Aside0.mk A260
        clear A260
        obtain rfl := Option.some.inj H
        go_wp2_with (first | ((with_reducible refine gate_callee (f := 16) rfl ?_); refine goesL_ (some 30) rfl rfl Tryd.func16 (by kernel_rfl) rfl #[] rfl (by (try simp only [List.map_toArray, List.map_cons, List.map_nil]); first | done | rfl | (simp only [List.length_drop, List.length_take]; rfl)) ?_; (with_reducible refine (familychecklaw01_known.calls kj3  t294 _ A26.out).mono ?_); rintro e w27 ⟨rfl, hb⟩; refine ⟨_, rfl, ?_⟩; have n0_ := Aside0.mk (blk_below (g := gb291) (o := .cells #[.int .i64 a0_0, .slice A0_1 l0_1.length c0_1] 24 (0, 0)) (by (with_reducible repeat (first | refine blk_drewN ?_ _ | refine blk_drew ?_ | refine blk_alloc ?_ _)); exact BK291.out) hb); have n1_ := Aside0.mk (blk_below (g := gb292) (o := .cells #[.int .i64 a2_0, .int .i64 a2_1] 55 (0, 0)) (by (with_reducible repeat (first | refine blk_drewN ?_ _ | refine blk_drew ?_ | refine blk_alloc ?_ _)); exact BK292.out) hb); have n2_ := Aside0.mk (below_step (by repeat (first | (with_reducible first | exact HB.out | apply below_alloc | apply pw_below_drewN | apply below_drew1 | refine below_set ?_ GE291.out | refine below_set ?_ GE292.out) | exact HB.out)) hb); clear BK291; clear BK292; clear HB; have BK291 := n0_; have BK292 := n1_; have HB := n2_; clear n0_ n1_ n2_; (try clear hb); (try clear hb2); (try clear hk); (try clear hi)))
        go_ret
        exact ⟨by first | rfl | (simp [errW_none, errW_some] <;> rfl) | (simp [*, errW_none, errW_some] <;> rfl), by repeat (first | (with_reducible first | exact HB.out | apply below_alloc | apply pw_below_drewN | apply below_drew1 | refine below_set ?_ GE291.out | refine below_set ?_ GE292.out) | exact HB.out)⟩
      · replace c25 := Bool.eq_false_iff.mpr c25
        subst c25
        have H1 : (if (IntKind.u64.wrap ((l1.length : Int))) = 0 then (none) else (if 0 ≤ (wrap64 (Int.tmod (IntKind.u64.wrap (a2_0)) (IntKind.u64.wrap ((l1.length : Int))))) then (if (wrap64 (Int.tmod (IntKind.u64.wrap (a2_0)) (IntKind.u64.wrap ((l1.length : Int))))) < (l1.length : Int) then ((linear_Substitute.f kj3 a0_0 l0_1 (wrap64 (Int.tmod (IntKind.u64.wrap (a2_0)) (IntKind.u64.wrap ((l1.length : Int))))) (rd l1 (wrap64 (Int.tmod (IntKind.u64.wrap (a2_0)) (IntKind.u64.wrap ((l1.length : Int))))))).bind fun bt296 => (if bt296.2.2 = 0 then ((familycheckref01_CopyInts.f l1).bind fun t303 => (if (wrap64 (Int.tmod (IntKind.u64.wrap (a2_0)) (IntKind.u64.wrap ((l1.length : Int))))) < (t303.length : Int) then ((linear_Satisfies.f kj3 a0_0 l0_1 l1).bind fun t307 => ((linear_Satisfies.f kj3 bt296.1 bt296.2.1 (t303.set ((wrap64 (Int.tmod (IntKind.u64.wrap (a2_0)) (IntKind.u64.wrap ((l1.length : Int))))) : Int).toNat (Go.bits .and .i64 a2_1 1048575))).bind fun t308 => (if (t307 == t308) = true then ((familychecklaw01_known.f kj3).bind fun t309 => (some t309)) else (some false)))) else (none))) else ((familychecklaw01_known.f kj3).bind fun t302 => (some t302)))) else (none)) else (none))) = some r := by rw [if_neg (show ¬ (false = true) by decide)] at H; exact H
        clear H
        have H := H1
        clear H1
        by_cases c28 : (IntKind.u64.wrap ((l1.length : Int))) = 0
        · rw [if_pos c28] at H
          exact absurd H (by simp)
        · rw [if_neg c28] at H
          have c28b0 : ((IntKind.u64.wrap ((l1.length : Int))) == 0) = false := beq_eq_false_iff_ne.mpr c28
          have c28b1 : ((IntKind.u64.wrap ((l1.length : Int))) != 0) = true := bne_iff_ne.mpr c28
          obtain ⟨ji29, hji29⟩ : ∃ j_ : Int, (wrap64 (Int.tmod (IntKind.u64.wrap (a2_0)) (IntKind.u64.wrap ((l1.length : Int))))) = j_ := ⟨_, rfl⟩
          replace H : (if 0 ≤ (ji29) then (if (ji29) < (l1.length : Int) then ((linear_Substitute.f kj3 a0_0 l0_1 (ji29) (rd l1 (ji29))).bind fun bt296 => (if bt296.2.2 = 0 then ((familycheckref01_CopyInts.f l1).bind fun t303 => (if (ji29) < (t303.length : Int) then ((linear_Satisfies.f kj3 a0_0 l0_1 l1).bind fun t307 => ((linear_Satisfies.f kj3 bt296.1 bt296.2.1 (t303.set ((ji29) : Int).toNat (Go.bits .and .i64 a2_1 1048575))).bind fun t308 => (if (t307 == t308) = true then ((familychecklaw01_known.f kj3).bind fun t309 => (some t309)) else (some false)))) else (none))) else ((familychecklaw01_known.f kj3).bind fun t302 => (some t302)))) else (none)) else (none)) = some r := by first | (rw [hji29] at H; exact H) | (simp only [hji29] at H ⊢; exact H)
          have hji29w : (IntKind.i64.wrap (Int.tmod (IntKind.u64.wrap (a2_0)) (IntKind.u64.wrap ((l1.length : Int))))) = ji29 := (i64_w _).trans hji29
          by_cases c30 : 0 ≤ (ji29)
          · rw [if_pos c30] at H
            have c30b0 : decide (0 ≤ (ji29)) = true := decide_eq_true c30
            clear c30
            by_cases c31 : (ji29) < (l1.length : Int)
            · rw [if_pos c31] at H
              have c31b0 : decide ((ji29) < (l1.length : Int)) = true := decide_eq_true c31
              clear c31
              replace H := Option.bind_eq_some_iff.mp H
              obtain ⟨⟨t296, t297, t300⟩, A320, H⟩ := H
              replace H : (if t300 = 0 then ((familycheckref01_CopyInts.f l1).bind fun t303 => (if (ji29) < (t303.length : Int) then ((linear_Satisfies.f kj3 a0_0 l0_1 l1).bind fun t307 => ((linear_Satisfies.f kj3 t296 t297 (t303.set ((ji29) : Int).toNat (Go.bits .and .i64 a2_1 1048575))).bind fun t308 => (if (t307 == t308) = true then ((familychecklaw01_known.f kj3).bind fun t309 => (some t309)) else (some false)))) else (none))) else ((familychecklaw01_known.f kj3).bind fun t302 => (some t302))) = some r := H
              have A32 := Aside0.mk A320
              clear A320
              by_cases c33 : t300 = 0
              · rw [if_pos c33] at H
                have c33b0 : (t300 == 0) = true := beq_iff_eq.mpr c33
                have c33b1 : (t300 != 0) = false := bne_eq_false_iff_eq.mpr c33
                clear c33
                replace H := Option.bind_eq_some_iff.mp H
                obtain ⟨t303, A340, H⟩ := H
                replace H : (if (ji29) < (t303.length : Int) then ((linear_Satisfies.f kj3 a0_0 l0_1 l1).bind fun t307 => ((linear_Satisfies.f kj3 t296 t297 (t303.set ((ji29) : Int).toNat (Go.bits .and .i64 a2_1 1048575))).bind fun t308 => (if (t307 == t308) = true then ((familychecklaw01_known.f kj3).bind fun t309 => (some t309)) else (some false)))) else (none)) = some r := H
                have A34 := Aside0.mk A340
                clear A340
                by_cases c35 : (ji29) < (t303.length : Int)
                · rw [if_pos c35] at H
                  have c35b0 : decide ((ji29) < (t303.length : Int)) = true := decide_eq_true c35
                  clear c35
                  obtain ⟨y306, hy306⟩ : ∃ y_ : List Int, y_ = (t303.set ((ji29) : Int).toNat (Go.bits .and .i64 a2_1 1048575)) := ⟨_, rfl⟩
                  replace H : ((linear_Satisfies.f kj3 a0_0 l0_1 l1).bind fun t307 => ((linear_Satisfies.f kj3 t296 t297 y306).bind fun t308 => (if (t307 == t308) = true then ((familychecklaw01_known.f kj3).bind fun t309 => (some t309)) else (some false)))) = some r := by first | (rw [hy306]; with_reducible exact H) | (have H2_ := (Option.bind_some _ _).symm.trans H; rw [hy306]; with_reducible exact H2_) | (have H2_ := (Option.bind_some _ _).symm.trans H; with_reducible exact H2_) | with_reducible exact H | (rw [hy306]; exact H) | exact H
                  have Ny306 := Aside0.mk hy306
                  clear hy306
                  replace H := Option.bind_eq_some_iff.mp H
                  obtain ⟨t307, A370, H⟩ := H
                  replace H : ((linear_Satisfies.f kj3 t296 t297 y306).bind fun t308 => (if (t307 == t308) = true then ((familychecklaw01_known.f kj3).bind fun t309 => (some t309)) else (some false))) = some r := H
                  have A37 := Aside0.mk A370
                  clear A370
                  replace H := Option.bind_eq_some_iff.mp H
                  obtain ⟨t308, A380, H⟩ := H
                  replace H : (if (t307 == t308) = true then ((familychecklaw01_known.f kj3).bind fun t309 => (some t309)) else (some false)) = some r := H
                  have A38 := Aside0.mk A380
                  clear A380
                  by_cases c39 : (t307 == t308) = true
                  · rw [if_pos c39] at H
                    have c39b0 : (t307 == t308) = true := c39
                    (try (have c39b1 : decide (t307 = t308) = true := by simpa using c39))
                    (try (have c39b2 : (t307 == t308) = true := by simpa using c39))
                    clear c39
                    replace H := Option.bind_eq_some_iff.mp H
                    obtain ⟨t309, A400, H⟩ := H
                    replace H : (some t309) = some r := H
                    have A40 := Aside0.mk A400
                    clear A400
                    obtain rfl := Option.some.inj H
                    have hnb41 := NB292_291.out
                    have hnc41 := NB291_292.out
                    have hcz42_0 : wc.cell? ⟨gb292, 0, none⟩ = some (.int .i64 a2_0) := (blk_cell BK292.out 0).trans rfl
                    have hcz42_1 : wc.cell? ⟨gb292, 1, none⟩ = some (.int .i64 a2_1) := (blk_cell BK292.out 1).trans rfl
                    have hfz42_0 := blk_frozen BK292.out 0
                    have hfz42_1 := blk_frozen BK292.out 1
                    try go_wp2
                    have n0_ := Aside0.mk (blk_drew BK291.out)
                    have n1_ := Aside0.mk (blk_drew BK292.out)
                    have n2_ := Aside0.mk (below_drew1 HB.out)
                    clear BK291
                    clear BK292
                    clear HB
                    have BK291 := n0_
                    have BK292 := n1_
                    have HB := n2_
                    clear n0_ n1_ n2_
                    have p295 : 0 ≤ ((ji29) : Int) := of_decide_eq_true (by first | (with_reducible assumption) | assumption)
                    have q295 : (ji29) < (l1.length : Int) := of_decide_eq_true (by first | (with_reducible assumption) | assumption)
                    obtain ⟨ad295, e295, hx295_0⟩ := Kd.at_int HR1.out (ji29) p295 q295
                    have hw295_0 := hx295_0
                    cases e295
                    replace hx295_0 := (HB.out.cell (World.block_lt_of_cell? w _ hx295_0)).trans hx295_0
                    replace p295 := eq_true p295
                    replace q295 := eq_true q295
                    refine start_ (n := 13) (S := fun w' => w'.cell? ⟨gb291, 0, none⟩ = some (.int .i64 a0_0) ∧ w'.cell? ⟨gb291, 1, none⟩ = some (.slice A0_1 l0_1.length c0_1) ∧ w'.cell? (ad295.add ((ji29)).toNat) = some (.int .i64 (rd l1 (ji29)))) (ds := []) #[false, false, false, false, false, false, false, false, false, false, false, false, false] (by kernel_rfl) rfl rfl ⟨(blk_cell BK291.out 0).trans rfl, (blk_cell BK291.out 1).trans rfl, ((HB.out.cell (World.block_lt_of_cell? w _ hw295_0)).trans hw295_0)⟩ (fun hHeld => ?_); refine with_tabW familychecklaw01_LinearSubstituteMeans.tab4 familychecklaw01_LinearSubstituteMeans.bits4 (fun HT_ HW_ => ?_)
                    generalize wc.drew = w43 at BK291 BK292 HB hx295_0 hHeld ⊢
                    refine pure_ (i := 1) (N := some 41) (v := ?_) (a' := ?_) #[false, true, false, false, false, false, false, false, false, false, false, false, false] rfl rfl (any_of HT_.out (by kernel_rfl)) (fun _ _ _ h => h) (Or.inl ⟨by rfl, ?_⟩) ?_ ?_
                    rotate_left
                    · intro w'
                      go_simp
                      with_reducible rfl
                    rotate_left
                    · simp only [Act.put, List.setIfInBounds_toArray, List.set_cons_zero, List.set_cons_succ, i64_w, i32_w]
                      rfl
                    refine pure_ (i := 2) (N := some 42) (v := ?_) (a' := ?_) #[false, true, true, false, false, false, false, false, false, false, false, false, false] rfl rfl (any_of HT_.out (by kernel_rfl)) (fun _ _ _ h => h) (Or.inl ⟨by rfl, ?_⟩) ?_ ?_
                    rotate_left
                    · intro w'
                      go_simp
                      with_reducible rfl
                    rotate_left
                    · simp only [Act.put, List.setIfInBounds_toArray, List.set_cons_zero, List.set_cons_succ, i64_w, i32_w]
                      rfl
                    refine pure_ (i := 3) (N := some 43) (v := ?_) (a' := ?_) #[false, true, true, true, false, false, false, false, false, false, false, false, false] rfl rfl (any_of HT_.out (by kernel_rfl)) (fun _ _ _ h => h) (Or.inl ⟨by rfl, ?_⟩) ?_ ?_
                    rotate_left
                    · intro w'
                      go_simp
                      with_reducible rfl
                    rotate_left
                    · simp only [Act.put, List.setIfInBounds_toArray, List.set_cons_zero, List.set_cons_succ, i64_w, i32_w]
                      rfl
                    refine pure_ (i := 4) (N := some 44) (v := ?_) (a' := ?_) #[false, true, true, true, true, false, false, false, false, false, false, false, false] rfl rfl (any_of HT_.out (by kernel_rfl)) (fun _ _ _ h => h) (Or.inl ⟨by rfl, ?_⟩) ?_ ?_
                    rotate_left
                    · intro w'
                      go_simp
                      with_reducible rfl
                    rotate_left
                    · simp only [Act.put, List.setIfInBounds_toArray, List.set_cons_zero, List.set_cons_succ, i64_w, i32_w]
                      rfl
                    refine take_ (i := 0) (N := some 40) (v := ?_) (a' := ?_) #[true, true, true, true, true, false, false, false, false, false, false, false, false] rfl rfl (take_ofW HT_.out HW_.out (by kernel_rfl)) (fun _ _ _ h => h) (Or.inl ⟨by rfl, ?_⟩) hHeld ?_ ?_
                    rotate_left
                    · rintro w' ⟨s0, s1, s2⟩
                      go_simp
                      with_reducible rfl
                    rotate_left
                    · simp only [Act.put, List.setIfInBounds_toArray, List.set_cons_zero, List.set_cons_succ, i64_w, i32_w]
                      rfl
                    refine take_ (i := 5) (N := some 45) (v := ?_) (a' := ?_) #[true, true, true, true, true, true, false, false, false, false, false, false, false] rfl rfl (take_ofW HT_.out HW_.out (by kernel_rfl)) (fun _ _ _ h => h) (Or.inl ⟨by rfl, ?_⟩) hHeld ?_ ?_
                    rotate_left
                    · rintro w' ⟨s0, s1, s2⟩
                      go_simp
                      with_reducible rfl
                    rotate_left
                    · simp only [Act.put, List.setIfInBounds_toArray, List.set_cons_zero, List.set_cons_succ, i64_w, i32_w]
                      rfl
                    refine join_ (σ := Value × Nat) 2 #[true, true, true, true, true, true, true, true, true, true, true, false, false] (fun s_ => [(46, .tuple #[.agg #[.int .i64 t296, s_.1], .int .i64 t300]), (8, .pointer (some ⟨s_.2, 0, none⟩)), (39, .tuple #[.agg #[.int .i64 t296, s_.1], .int .i64 t300]), (47, .agg #[.int .i64 t296, s_.1]), (48, .int .i64 t300)]) (fun s_ w' => (w'.cell? ⟨gb291, 0, none⟩ = some (.int .i64 a0_0) ∧ w'.cell? ⟨gb291, 1, none⟩ = some (.slice A0_1 l0_1.length c0_1) ∧ w'.cell? (ad295.add ((ji29)).toNat) = some (.int .i64 (rd l1 (ji29)))) ∧ (Kd.S k33 33 w' w.heap.size (fun _ => True) s_.1 t297) ∧ (w'.heap[gb291]? = some (.cells #[.int .i64 a0_0, .slice A0_1 l0_1.length c0_1] 24 (0, 0))) ∧ (w'.heap[gb292]? = some (.cells #[.int .i64 a2_0, .int .i64 a2_1] 55 (0, 0))) ∧ (w'.heap[s_.2]? = some (.cells #[.int .i64 0, .slice none 0 0] 24 (0, 0))) ∧ (w.heap.size ≤ s_.2) ∧ (w.heap.size ≤ s_.2) ∧ (gb291 ≠ s_.2) ∧ (s_.2 ≠ gb291) ∧ (gb292 ≠ s_.2) ∧ (s_.2 ≠ gb292) ∧ (Below w.heap.size w w')) ?_ ?_
                    rotate_left
                    · intro hCont
                      refine two_ (i := 6) (j := 10) (Ni := some 46) (Nj := some 8) #[true, true, true, true, true, true, true, false, false, false, false, false, false] #[true, true, true, true, true, true, false, false, false, false, true, false, false] rfl rfl rfl rfl (two_of HT_.out (by kernel_rfl)) (by decide) (by decide) (fun K hK => ?_) (fun K hK => ?_)
                      · skip
                        refine goes_ Tryd.func43 (by kernel_rfl) rfl #[.agg #[.int .i64 a0_0, .slice A0_1 l0_1.length c0_1], .int .i64 ji29, .int .i64 (rd l1 (ji29))] (by rfl) rfl rfl (by (try simp only [List.map_toArray, List.map_cons, List.map_nil]); first | done | (simp only [hji29]; rfl) | rfl | (simp only [List.length_drop, List.length_take]; rfl)) ?_
                        with_reducible refine (linear_Substitute.calls kj3 a0_0 _ _ l0_1 ji29 (rd l1 (ji29)) t296 t297 t300 _ ?side1 ?side2 A32.out).mono ?_
                        (case side1 => repeat (first | exact (Kd.C_below HR0_1.out HB.out) | (with_reducible refine Kd.C_alloc ?_ _) | (with_reducible refine Kd.C_drewN ?_ _) | (with_reducible refine Kd.C_drew ?_)))
                        (case side2 => exact HC0_1.out)
                        rintro e w44 ⟨v298, rfl, ho0, hb⟩
                        refine ⟨_, rfl, ?_⟩
                        have n0_ := Aside0.mk (Kd.S_lower ho0 (below_size (by repeat (first | (with_reducible first | exact HB.out | apply below_alloc | apply pw_below_drewN | apply below_drew1 | refine below_set ?_ GE291.out | refine below_set ?_ GE292.out) | exact HB.out))))
                        have n1_ := Aside0.mk (blk_below (g := gb291) (o := .cells #[.int .i64 a0_0, .slice A0_1 l0_1.length c0_1] 24 (0, 0)) (by (with_reducible repeat (first | refine blk_drewN ?_ _ | refine blk_drew ?_ | refine blk_alloc ?_ _)); exact BK291.out) hb)
                        have n2_ := Aside0.mk (blk_below (g := gb292) (o := .cells #[.int .i64 a2_0, .int .i64 a2_1] 55 (0, 0)) (by (with_reducible repeat (first | refine blk_drewN ?_ _ | refine blk_drew ?_ | refine blk_alloc ?_ _)); exact BK292.out) hb)
                        have n3_ := Aside0.mk (below_step (by repeat (first | (with_reducible first | exact HB.out | apply below_alloc | apply pw_below_drewN | apply below_drew1 | refine below_set ?_ GE291.out | refine below_set ?_ GE292.out) | exact HB.out)) hb)
                        clear BK291
                        clear BK292
                        clear HB
                        have HO299 := n0_
                        have BK291 := n1_
                        have BK292 := n2_
                        have HB := n3_
                        clear n0_ n1_ n2_ n3_
                        (try clear hb)
                        (try clear hb2)
                        (try clear hk)
                        (try clear hi)
                        (try clear ho0)
                        refine hK.out _ _ ⟨(blk_cell BK291.out 0).trans rfl, (blk_cell BK291.out 1).trans rfl, ((HB.out.cell (World.block_lt_of_cell? w _ hw295_0)).trans hw295_0)⟩ (fun hHeld => ?_)
                        clear hK K
                        refine norm_ (a' := ?_) ?_ ?_
                        rotate_left
                        · show Act.put _ (some 46) _ = _
                          simp only [Act.put, List.setIfInBounds_toArray, List.set_cons_zero, List.set_cons_succ, i64_w, i32_w]
                          rfl
                        refine pure_ (i := 7) (N := some 39) (v := ?_) (a' := ?_) #[true, true, true, true, true, true, true, true, false, false, false, false, false] rfl rfl (any_of HT_.out (by kernel_rfl)) (fun _ _ _ h => h) (Or.inl ⟨by rfl, ?_⟩) ?_ ?_
                        rotate_left
                        · intro w'
                          go_simp
                          with_reducible rfl
                        rotate_left
                        · simp only [Act.put, List.setIfInBounds_toArray, List.set_cons_zero, List.set_cons_succ, i64_w, i32_w]
                          rfl
                        refine pure_ (i := 8) (N := some 47) (v := ?_) (a' := ?_) #[true, true, true, true, true, true, true, true, true, false, false, false, false] rfl rfl (any_of HT_.out (by kernel_rfl)) (fun _ _ _ h => h) (Or.inl ⟨by rfl, ?_⟩) ?_ ?_
                        rotate_left
                        · intro w'
                          go_simp
                          with_reducible rfl
                        rotate_left
                        · simp only [Act.put, List.setIfInBounds_toArray, List.set_cons_zero, List.set_cons_succ, i64_w, i32_w]
                          rfl
                        refine pure_ (i := 9) (N := some 48) (v := ?_) (a' := ?_) #[true, true, true, true, true, true, true, true, true, true, false, false, false] rfl rfl (any_of HT_.out (by kernel_rfl)) (fun _ _ _ h => h) (Or.inl ⟨by rfl, ?_⟩) ?_ ?_
                        rotate_left
                        · intro w'
                          go_simp
                          with_reducible rfl
                        rotate_left
                        · simp only [Act.put, List.setIfInBounds_toArray, List.set_cons_zero, List.set_cons_succ, i64_w, i32_w]
                          rfl
                        refine one_ (i := 10) (N := some 8) #[true, true, true, true, true, true, true, true, true, true, true, false, false] rfl rfl (one_of HT_.out (by kernel_rfl)) (by decide) (fun K hK => ?_)
                        refine box_step ?hg (N := 8) ?hd (cs := #[.int .i64 0, .slice none 0 0]) (t := 24) ?hr ?_; (case hd => rfl); (case hg => rfl); (case hr => first | (go_simp; done) | (go_simp; rfl))
                        intro gb301 hg w45 hbox hb
                        have n0_ := Aside0.mk (Kd.S_below (by (with_reducible repeat (first | apply Kd.S_alloc | apply Kd.S_drewN | apply Kd.S_drew)); exact HO299.out) hb)
                        have n1_ := Aside0.mk (blk_below (g := gb291) (o := .cells #[.int .i64 a0_0, .slice A0_1 l0_1.length c0_1] 24 (0, 0)) (by (with_reducible repeat (first | refine blk_drewN ?_ _ | refine blk_drew ?_ | refine blk_alloc ?_ _)); exact BK291.out) hb)
                        have n2_ := Aside0.mk (blk_below (g := gb292) (o := .cells #[.int .i64 a2_0, .int .i64 a2_1] 55 (0, 0)) (by (with_reducible repeat (first | refine blk_drewN ?_ _ | refine blk_drew ?_ | refine blk_alloc ?_ _)); exact BK292.out) hb)
                        have n3_ := Aside0.mk (below_step (by repeat (first | (with_reducible first | exact HB.out | apply below_alloc | apply pw_below_drewN | apply below_drew1 | refine below_set ?_ GE291.out | refine below_set ?_ GE292.out) | exact HB.out)) hb)
                        have n4_ := Aside0.mk (hbox)
                        have n5_ := Aside0.mk ((by rw [hg]; exact (below_size (by repeat (first | (with_reducible first | exact HB.out | apply below_alloc | apply pw_below_drewN | apply below_drew1 | refine below_set ?_ GE291.out | refine below_set ?_ GE292.out) | exact HB.out))) : w.heap.size ≤ gb301))
                        have n6_ := Aside0.mk ((by rw [hg]; exact (below_size (by repeat (first | (with_reducible first | exact HB.out | apply below_alloc | apply pw_below_drewN | apply below_drew1 | refine below_set ?_ GE291.out | refine below_set ?_ GE292.out) | exact HB.out))) : w.heap.size ≤ gb301))
                        have n7_ := Aside0.mk ((by rw [hg]; exact Nat.ne_of_lt (blk_lt (g := gb291) (o := .cells #[.int .i64 a0_0, .slice A0_1 l0_1.length c0_1] 24 (0, 0)) (by (with_reducible repeat (first | refine blk_drewN ?_ _ | refine blk_drew ?_ | refine blk_alloc ?_ _)); exact BK291.out)) : gb291 ≠ gb301))
                        have n8_ := Aside0.mk ((by rw [hg]; exact Nat.ne_of_gt (blk_lt (g := gb291) (o := .cells #[.int .i64 a0_0, .slice A0_1 l0_1.length c0_1] 24 (0, 0)) (by (with_reducible repeat (first | refine blk_drewN ?_ _ | refine blk_drew ?_ | refine blk_alloc ?_ _)); exact BK291.out)) : gb301 ≠ gb291))
                        have n9_ := Aside0.mk ((by rw [hg]; exact Nat.ne_of_lt (blk_lt (g := gb292) (o := .cells #[.int .i64 a2_0, .int .i64 a2_1] 55 (0, 0)) (by (with_reducible repeat (first | refine blk_drewN ?_ _ | refine blk_drew ?_ | refine blk_alloc ?_ _)); exact BK292.out)) : gb292 ≠ gb301))
                        have n10_ := Aside0.mk ((by rw [hg]; exact Nat.ne_of_gt (blk_lt (g := gb292) (o := .cells #[.int .i64 a2_0, .int .i64 a2_1] 55 (0, 0)) (by (with_reducible repeat (first | refine blk_drewN ?_ _ | refine blk_drew ?_ | refine blk_alloc ?_ _)); exact BK292.out)) : gb301 ≠ gb292))
                        clear HO299
                        clear BK291
                        clear BK292
                        clear HB
                        have HO299 := n0_
                        have BK291 := n1_
                        have BK292 := n2_
                        have HB := n3_
                        have BK301 := n4_
                        have GW301 := n5_
                        have GE301 := n6_
                        have NB291_301 := n7_
                        have NB301_291 := n8_
                        have NB292_301 := n9_
                        have NB301_292 := n10_
                        clear n0_ n1_ n2_ n3_ n4_ n5_ n6_ n7_ n8_ n9_ n10_
                        clear hb hbox hg
                        refine hK.out _ _ ⟨(blk_cell BK291.out 0).trans rfl, (blk_cell BK291.out 1).trans rfl, ((HB.out.cell (World.block_lt_of_cell? w _ hw295_0)).trans hw295_0)⟩ (fun hHeld => ?_)
                        clear hK K
                        refine norm_ (a' := ?_) ?_ ?_
                        rotate_left
                        · show Act.put _ (some 8) _ = _
                          simp only [Act.put, List.setIfInBounds_toArray, List.set_cons_zero, List.set_cons_succ, i64_w, i32_w]
                          rfl
                        exact norm_ (by simp only [putAll, Act.put, List.setIfInBounds_toArray, List.set_cons_zero, List.set_cons_succ]) (hCont (v298, gb301) _ ⟨hHeld, (by (with_reducible repeat (first | apply Kd.S_alloc | apply Kd.S_drewN | apply Kd.S_drew)); exact HO299.out), (by (with_reducible repeat (first | refine blk_drewN ?_ _ | refine blk_drew ?_ | refine blk_alloc ?_ _)); exact BK291.out), (by (with_reducible repeat (first | refine blk_drewN ?_ _ | refine blk_drew ?_ | refine blk_alloc ?_ _)); exact BK292.out), (by (with_reducible repeat (first | refine blk_drewN ?_ _ | refine blk_drew ?_ | refine blk_alloc ?_ _)); exact BK301.out), GW301.out, GE301.out, NB291_301.out, NB301_291.out, NB292_301.out, NB301_292.out, (by repeat (first | (with_reducible first | exact HB.out | apply below_alloc | apply pw_below_drewN | apply below_drew1 | refine below_set ?_ GE291.out | refine below_set ?_ GE292.out | refine below_set ?_ GE301.out) | exact HB.out))⟩)
                      · skip
                        refine box_step ?hg (N := 8) ?hd (cs := #[.int .i64 0, .slice none 0 0]) (t := 24) ?hr ?_; (case hd => rfl); (case hg => rfl); (case hr => first | (go_simp; done) | (go_simp; rfl))
                        intro gb301 hg w44 hbox hb
                        have n0_ := Aside0.mk (blk_below (g := gb291) (o := .cells #[.int .i64 a0_0, .slice A0_1 l0_1.length c0_1] 24 (0, 0)) (by (with_reducible repeat (first | refine blk_drewN ?_ _ | refine blk_drew ?_ | refine blk_alloc ?_ _)); exact BK291.out) hb)
                        have n1_ := Aside0.mk (blk_below (g := gb292) (o := .cells #[.int .i64 a2_0, .int .i64 a2_1] 55 (0, 0)) (by (with_reducible repeat (first | refine blk_drewN ?_ _ | refine blk_drew ?_ | refine blk_alloc ?_ _)); exact BK292.out) hb)
                        have n2_ := Aside0.mk (below_step (by repeat (first | (with_reducible first | exact HB.out | apply below_alloc | apply pw_below_drewN | apply below_drew1 | refine below_set ?_ GE291.out | refine below_set ?_ GE292.out) | exact HB.out)) hb)
                        have n3_ := Aside0.mk (hbox)
                        have n4_ := Aside0.mk ((by rw [hg]; exact (below_size (by repeat (first | (with_reducible first | exact HB.out | apply below_alloc | apply pw_below_drewN | apply below_drew1 | refine below_set ?_ GE291.out | refine below_set ?_ GE292.out) | exact HB.out))) : w.heap.size ≤ gb301))
                        have n5_ := Aside0.mk ((by rw [hg]; exact (below_size (by repeat (first | (with_reducible first | exact HB.out | apply below_alloc | apply pw_below_drewN | apply below_drew1 | refine below_set ?_ GE291.out | refine below_set ?_ GE292.out) | exact HB.out))) : w.heap.size ≤ gb301))
                        have n6_ := Aside0.mk ((by rw [hg]; exact Nat.ne_of_lt (blk_lt (g := gb291) (o := .cells #[.int .i64 a0_0, .slice A0_1 l0_1.length c0_1] 24 (0, 0)) (by (with_reducible repeat (first | refine blk_drewN ?_ _ | refine blk_drew ?_ | refine blk_alloc ?_ _)); exact BK291.out)) : gb291 ≠ gb301))
                        have n7_ := Aside0.mk ((by rw [hg]; exact Nat.ne_of_gt (blk_lt (g := gb291) (o := .cells #[.int .i64 a0_0, .slice A0_1 l0_1.length c0_1] 24 (0, 0)) (by (with_reducible repeat (first | refine blk_drewN ?_ _ | refine blk_drew ?_ | refine blk_alloc ?_ _)); exact BK291.out)) : gb301 ≠ gb291))
                        have n8_ := Aside0.mk ((by rw [hg]; exact Nat.ne_of_lt (blk_lt (g := gb292) (o := .cells #[.int .i64 a2_0, .int .i64 a2_1] 55 (0, 0)) (by (with_reducible repeat (first | refine blk_drewN ?_ _ | refine blk_drew ?_ | refine blk_alloc ?_ _)); exact BK292.out)) : gb292 ≠ gb301))
                        have n9_ := Aside0.mk ((by rw [hg]; exact Nat.ne_of_gt (blk_lt (g := gb292) (o := .cells #[.int .i64 a2_0, .int .i64 a2_1] 55 (0, 0)) (by (with_reducible repeat (first | refine blk_drewN ?_ _ | refine blk_drew ?_ | refine blk_alloc ?_ _)); exact BK292.out)) : gb301 ≠ gb292))
                        clear BK291
                        clear BK292
                        clear HB
                        have BK291 := n0_
                        have BK292 := n1_
                        have HB := n2_
                        have BK301 := n3_
                        have GW301 := n4_
                        have GE301 := n5_
                        have NB291_301 := n6_
                        have NB301_291 := n7_
                        have NB292_301 := n8_
                        have NB301_292 := n9_
                        clear n0_ n1_ n2_ n3_ n4_ n5_ n6_ n7_ n8_ n9_
                        clear hb hbox hg
                        refine hK.out _ _ ⟨(blk_cell BK291.out 0).trans rfl, (blk_cell BK291.out 1).trans rfl, ((HB.out.cell (World.block_lt_of_cell? w _ hw295_0)).trans hw295_0)⟩ (fun hHeld => ?_)
                        clear hK K
                        refine norm_ (a' := ?_) ?_ ?_
                        rotate_left
                        · show Act.put _ (some 8) _ = _
                          simp only [Act.put, List.setIfInBounds_toArray, List.set_cons_zero, List.set_cons_succ, i64_w, i32_w]
                          rfl
                        refine one_ (i := 6) (N := some 46) #[true, true, true, true, true, true, true, false, false, false, true, false, false] rfl rfl (one_of HT_.out (by kernel_rfl)) (by decide) (fun K hK => ?_)
                        refine goes_ Tryd.func43 (by kernel_rfl) rfl #[.agg #[.int .i64 a0_0, .slice A0_1 l0_1.length c0_1], .int .i64 ji29, .int .i64 (rd l1 (ji29))] (by rfl) rfl rfl (by (try simp only [List.map_toArray, List.map_cons, List.map_nil]); first | done | (simp only [hji29]; rfl) | rfl | (simp only [List.length_drop, List.length_take]; rfl)) ?_
                        with_reducible refine (linear_Substitute.calls kj3 a0_0 _ _ l0_1 ji29 (rd l1 (ji29)) t296 t297 t300 _ ?side1 ?side2 A32.out).mono ?_
                        (case side1 => repeat (first | exact (Kd.C_below HR0_1.out HB.out) | (with_reducible refine Kd.C_alloc ?_ _) | (with_reducible refine Kd.C_drewN ?_ _) | (with_reducible refine Kd.C_drew ?_)))
                        (case side2 => exact HC0_1.out)
                        rintro e w45 ⟨v298, rfl, ho0, hb⟩
                        refine ⟨_, rfl, ?_⟩
                        have n0_ := Aside0.mk (Kd.S_lower ho0 (below_size (by repeat (first | (with_reducible first | exact HB.out | apply below_alloc | apply pw_below_drewN | apply below_drew1 | refine below_set ?_ GE291.out | refine below_set ?_ GE292.out | refine below_set ?_ GE301.out) | exact HB.out))))
                        have n1_ := Aside0.mk (blk_below (g := gb291) (o := .cells #[.int .i64 a0_0, .slice A0_1 l0_1.length c0_1] 24 (0, 0)) (by (with_reducible repeat (first | refine blk_drewN ?_ _ | refine blk_drew ?_ | refine blk_alloc ?_ _)); exact BK291.out) hb)
                        have n2_ := Aside0.mk (blk_below (g := gb292) (o := .cells #[.int .i64 a2_0, .int .i64 a2_1] 55 (0, 0)) (by (with_reducible repeat (first | refine blk_drewN ?_ _ | refine blk_drew ?_ | refine blk_alloc ?_ _)); exact BK292.out) hb)
                        have n3_ := Aside0.mk (blk_below (g := gb301) (o := .cells #[.int .i64 0, .slice none 0 0] 24 (0, 0)) (by (with_reducible repeat (first | refine blk_drewN ?_ _ | refine blk_drew ?_ | refine blk_alloc ?_ _)); exact BK301.out) hb)
                        have n4_ := Aside0.mk (below_step (by repeat (first | (with_reducible first | exact HB.out | apply below_alloc | apply pw_below_drewN | apply below_drew1 | refine below_set ?_ GE291.out | refine below_set ?_ GE292.out | refine below_set ?_ GE301.out) | exact HB.out)) hb)
                        clear BK291
                        clear BK292
                        clear BK301
                        clear HB
                        have HO299 := n0_
                        have BK291 := n1_
                        have BK292 := n2_
                        have BK301 := n3_
                        have HB := n4_
                        clear n0_ n1_ n2_ n3_ n4_
                        (try clear hb)
                        (try clear hb2)
                        (try clear hk)
                        (try clear hi)
                        (try clear ho0)
                        refine hK.out _ _ ⟨(blk_cell BK291.out 0).trans rfl, (blk_cell BK291.out 1).trans rfl, ((HB.out.cell (World.block_lt_of_cell? w _ hw295_0)).trans hw295_0)⟩ (fun hHeld => ?_)
                        clear hK K
                        refine norm_ (a' := ?_) ?_ ?_
                        rotate_left
                        · show Act.put _ (some 46) _ = _
                          simp only [Act.put, List.setIfInBounds_toArray, List.set_cons_zero, List.set_cons_succ, i64_w, i32_w]
                          rfl
                        refine pure_ (i := 7) (N := some 39) (v := ?_) (a' := ?_) #[true, true, true, true, true, true, true, true, false, false, true, false, false] rfl rfl (any_of HT_.out (by kernel_rfl)) (fun _ _ _ h => h) (Or.inl ⟨by rfl, ?_⟩) ?_ ?_
                        rotate_left
                        · intro w'
                          go_simp
                          with_reducible rfl
                        rotate_left
                        · simp only [Act.put, List.setIfInBounds_toArray, List.set_cons_zero, List.set_cons_succ, i64_w, i32_w]
                          rfl
                        refine pure_ (i := 8) (N := some 47) (v := ?_) (a' := ?_) #[true, true, true, true, true, true, true, true, true, false, true, false, false] rfl rfl (any_of HT_.out (by kernel_rfl)) (fun _ _ _ h => h) (Or.inl ⟨by rfl, ?_⟩) ?_ ?_
                        rotate_left
                        · intro w'
                          go_simp
                          with_reducible rfl
                        rotate_left
                        · simp only [Act.put, List.setIfInBounds_toArray, List.set_cons_zero, List.set_cons_succ, i64_w, i32_w]
                          rfl
                        refine pure_ (i := 9) (N := some 48) (v := ?_) (a' := ?_) #[true, true, true, true, true, true, true, true, true, true, true, false, false] rfl rfl (any_of HT_.out (by kernel_rfl)) (fun _ _ _ h => h) (Or.inl ⟨by rfl, ?_⟩) ?_ ?_
                        rotate_left
                        · intro w'
                          go_simp
                          with_reducible rfl
                        rotate_left
                        · simp only [Act.put, List.setIfInBounds_toArray, List.set_cons_zero, List.set_cons_succ, i64_w, i32_w]
                          rfl
                        exact norm_ (by simp only [putAll, Act.put, List.setIfInBounds_toArray, List.set_cons_zero, List.set_cons_succ]) (hCont (v298, gb301) _ ⟨hHeld, (by (with_reducible repeat (first | apply Kd.S_alloc | apply Kd.S_drewN | apply Kd.S_drew)); exact HO299.out), (by (with_reducible repeat (first | refine blk_drewN ?_ _ | refine blk_drew ?_ | refine blk_alloc ?_ _)); exact BK291.out), (by (with_reducible repeat (first | refine blk_drewN ?_ _ | refine blk_drew ?_ | refine blk_alloc ?_ _)); exact BK292.out), (by (with_reducible repeat (first | refine blk_drewN ?_ _ | refine blk_drew ?_ | refine blk_alloc ?_ _)); exact BK301.out), GW301.out, GE301.out, NB291_301.out, NB301_291.out, NB292_301.out, NB301_292.out, (by repeat (first | (with_reducible first | exact HB.out | apply below_alloc | apply pw_below_drewN | apply below_drew1 | refine below_set ?_ GE291.out | refine below_set ?_ GE292.out | refine below_set ?_ GE301.out) | exact HB.out))⟩)
                    rintro ⟨v298, gb301⟩ w46 ⟨hS_, h0_, h1_, h2_, h3_, h4_, h5_, h6_, h7_, h8_, h9_, h10_⟩
                    have n0_ : Aside0 (Kd.S k33 33 w46 w.heap.size (fun _ => True) v298 t297) := ⟨h0_⟩
                    have n1_ : Aside0 (w46.heap[gb291]? = some (.cells #[.int .i64 a0_0, .slice A0_1 l0_1.length c0_1] 24 (0, 0))) := ⟨h1_⟩
                    have n2_ : Aside0 (w46.heap[gb292]? = some (.cells #[.int .i64 a2_0, .int .i64 a2_1] 55 (0, 0))) := ⟨h2_⟩
                    have n3_ : Aside0 (w46.heap[gb301]? = some (.cells #[.int .i64 0, .slice none 0 0] 24 (0, 0))) := ⟨h3_⟩
                    have n4_ : Aside0 (w.heap.size ≤ gb301) := ⟨h4_⟩
                    have n5_ : Aside0 (w.heap.size ≤ gb301) := ⟨h5_⟩
                    have n6_ : Aside0 (gb291 ≠ gb301) := ⟨h6_⟩
                    have n7_ : Aside0 (gb301 ≠ gb291) := ⟨h7_⟩
                    have n8_ : Aside0 (gb292 ≠ gb301) := ⟨h8_⟩
                    have n9_ : Aside0 (gb301 ≠ gb292) := ⟨h9_⟩
                    have n10_ : Aside0 (Below w.heap.size w w46) := ⟨h10_⟩
                    clear BK291
                    clear BK292
                    clear HB
                    clear h0_ h1_ h2_ h3_ h4_ h5_ h6_ h7_ h8_ h9_ h10_
                    have HO299 := n0_
                    have BK291 := n1_
                    have BK292 := n2_
                    have BK301 := n3_
                    have GW301 := n4_
                    have GE301 := n5_
                    have NB291_301 := n6_
                    have NB301_291 := n7_
                    have NB292_301 := n8_
                    have NB301_292 := n9_
                    have HB := n10_
                    clear n0_ n1_ n2_ n3_ n4_ n5_ n6_ n7_ n8_ n9_ n10_
                    have hHeld : w46.cell? ⟨gb291, 0, none⟩ = some (.int .i64 a0_0) ∧ w46.cell? ⟨gb291, 1, none⟩ = some (.slice A0_1 l0_1.length c0_1) ∧ w46.cell? (ad295.add ((ji29)).toNat) = some (.int .i64 (rd l1 (ji29))) := hS_
                    obtain ⟨Ao48, co48, eo48⟩ := Kd.S_slice HO299.out
                    (first | subst eo48 | (injection eo48 with f1_ f2_ f3_; have f4_ := f1_.symm; have f5_ := f3_.symm; clear f1_ f2_ f3_; subst f4_; subst f5_))
                    refine norm_ (a' := ?_) ?_ ?_
                    rotate_left
                    · simp only [putAll, Act.put, List.setIfInBounds_toArray, List.set_cons_zero, List.set_cons_succ]
                      rfl
                    refine one_ (i := 11) (N := none) #[true, true, true, true, true, true, true, true, true, true, true, true, false] rfl rfl (one_of HT_.out (by kernel_rfl)) (by decide) (fun K hK => ?_)
                    have hs47 : w46.cell? ⟨gb301, 0, none⟩ = some (.int .i64 0) := (blk_cell BK301.out 0).trans rfl
                    have hfs47 := blk_frozen BK301.out 0
                    have hns47_0 := NB291_301.out
                    have hns47_1 := NB292_301.out
                    have hms47_0 := NB301_291.out
                    have hms47_1 := NB301_292.out
                    have hs49 : w46.cell? ⟨gb301, 1, none⟩ = some (.slice none 0 0) := (blk_cell BK301.out 1).trans rfl
                    have hfs49 := blk_frozen BK301.out 1
                    have hns49_0 := NB291_301.out
                    have hns49_1 := NB292_301.out
                    have hms49_0 := NB301_291.out
                    have hms49_1 := NB301_292.out
                    refine skip_ (w1 := ?_) (by rfl) rfl ?_ ?_
                    rotate_left
                    · go_simp
                      rfl
                    refine hK.out _ _ ⟨((cell_far (p := ⟨gb301, _, none⟩) NB291_301.out _).trans (((cell_far (p := ⟨gb301, _, none⟩) NB291_301.out _).trans (hHeld.1)))), ((cell_far (p := ⟨gb301, _, none⟩) NB291_301.out _).trans (((cell_far (p := ⟨gb301, _, none⟩) NB291_301.out _).trans (hHeld.2.1)))), ((cell_far (p := ⟨gb301, _, none⟩) (by first | exact Nat.ne_of_lt (Nat.lt_of_lt_of_le (by have := World.block_lt_of_cell? _ _ hw295_0; first | rwa [add_block] at this | exact this) GW301.out) | (rw [add_block]; exact Nat.ne_of_lt (Nat.lt_of_lt_of_le (by have := World.block_lt_of_cell? _ _ hw295_0; first | rwa [add_block] at this | exact this) GW301.out)) | (show (Addr.add _ _).block ≠ _; rw [add_block]; exact Nat.ne_of_lt (Nat.lt_of_lt_of_le (by have := World.block_lt_of_cell? _ _ hw295_0; first | rwa [add_block] at this | exact this) GW301.out)) | (dsimp only; exact Nat.ne_of_lt (Nat.lt_of_lt_of_le (by have := World.block_lt_of_cell? _ _ hw295_0; first | rwa [add_block] at this | exact this) GW301.out))) _).trans (((cell_far (p := ⟨gb301, _, none⟩) (by first | exact Nat.ne_of_lt (Nat.lt_of_lt_of_le (by have := World.block_lt_of_cell? _ _ hw295_0; first | rwa [add_block] at this | exact this) GW301.out) | (rw [add_block]; exact Nat.ne_of_lt (Nat.lt_of_lt_of_le (by have := World.block_lt_of_cell? _ _ hw295_0; first | rwa [add_block] at this | exact this) GW301.out)) | (show (Addr.add _ _).block ≠ _; rw [add_block]; exact Nat.ne_of_lt (Nat.lt_of_lt_of_le (by have := World.block_lt_of_cell? _ _ hw295_0; first | rwa [add_block] at this | exact this) GW301.out)) | (dsimp only; exact Nat.ne_of_lt (Nat.lt_of_lt_of_le (by have := World.block_lt_of_cell? _ _ hw295_0; first | rwa [add_block] at this | exact this) GW301.out))) _).trans (hHeld.2.2))))⟩ (fun hHeld => ?_)
                    clear hK K
                    refine pure_ (i := 12) (N := some 9) (v := ?_) (a' := ?_) #[true, true, true, true, true, true, true, true, true, true, true, true, true] rfl rfl (any_of HT_.out (by kernel_rfl)) (fun _ _ _ h => h) (Or.inl ⟨by rfl, ?_⟩) ?_ ?_
                    rotate_left
                    · intro w'
                      go_simp
                      with_reducible rfl
                    rotate_left
                    · simp only [Act.put, List.setIfInBounds_toArray, List.set_cons_zero, List.set_cons_succ, i64_w, i32_w]
                      rfl
                    refine done_ (done_of HT_.out (by kernel_rfl)) ?_
                    try go_wp2_with (first | ((with_reducible refine gate_callee (f := 45) rfl ?_); refine goesL_ (some 53) rfl rfl Tryd.func45 (by kernel_rfl) rfl #[.slice (some ad295) l1.length c1] rfl (by (try simp only [List.map_toArray, List.map_cons, List.map_nil]); first | done | rfl | (simp only [List.length_drop, List.length_take]; rfl)) ?_; (with_reducible refine (familycheckref01_CopyInts.calls _ _ l1 t303 _ ?side1 ?side2 A34.out).mono ?_); (case side1 => exact Kd.C_below HR1.out (by repeat (first | (with_reducible first | exact HB.out | apply below_alloc | apply pw_below_drewN | apply below_drew1 | refine below_set ?_ GE291.out | refine below_set ?_ GE292.out | refine below_set ?_ GE301.out) | exact HB.out))); (case side2 => exact HC1.out); rintro e w50 ⟨v304, rfl, ho0, hb⟩; refine ⟨_, rfl, ?_⟩; have n0_ := Aside0.mk (Kd.S_elder' (by (with_reducible repeat (first | apply Kd.S_alloc | apply Kd.S_drewN | apply Kd.S_drew)); exact (Kd.S_mono (Kd.S_far (p := ⟨gb301, 1, none⟩) (Kd.S_far (p := ⟨gb301, 0, none⟩) (Kd.S_types HO299.out BK301.out (by decide)) (fun _ hk => hk.2) (.int .i64 t296)) (fun _ hk => hk.2) (.slice Ao48 t297.length co48)) (fun _ h_ => h_.1))) (Kd.R_base ho0) hb); have n1_ := Aside0.mk (Kd.R_lower ho0 (below_size (by repeat (first | (with_reducible first | exact HB.out | apply below_alloc | apply pw_below_drewN | apply below_drew1 | refine below_set ?_ GE291.out | refine below_set ?_ GE292.out | refine below_set ?_ GE301.out) | exact HB.out)))); have n2_ := Aside0.mk (blk_below (g := gb291) (o := .cells #[.int .i64 a0_0, .slice A0_1 l0_1.length c0_1] 24 (0, 0)) (by (with_reducible repeat (first | refine blk_drewN ?_ _ | refine blk_drew ?_ | refine blk_alloc ?_ _)); refine blk_far ?_ NB291_301.out _; (with_reducible repeat (first | refine blk_drewN ?_ _ | refine blk_drew ?_ | refine blk_alloc ?_ _)); refine blk_far ?_ NB291_301.out _; (with_reducible repeat (first | refine blk_drewN ?_ _ | refine blk_drew ?_ | refine blk_alloc ?_ _)); exact BK291.out) hb); have n3_ := Aside0.mk (blk_below (g := gb292) (o := .cells #[.int .i64 a2_0, .int .i64 a2_1] 55 (0, 0)) (by (with_reducible repeat (first | refine blk_drewN ?_ _ | refine blk_drew ?_ | refine blk_alloc ?_ _)); refine blk_far ?_ NB292_301.out _; (with_reducible repeat (first | refine blk_drewN ?_ _ | refine blk_drew ?_ | refine blk_alloc ?_ _)); refine blk_far ?_ NB292_301.out _; (with_reducible repeat (first | refine blk_drewN ?_ _ | refine blk_drew ?_ | refine blk_alloc ?_ _)); exact BK292.out) hb); have n4_ := Aside0.mk (blk_below (g := gb301) (o := .cells #[.int .i64 t296, .slice Ao48 t297.length co48] 24 (0, 0)) (by (with_reducible repeat (first | refine blk_drewN ?_ _ | refine blk_drew ?_ | refine blk_alloc ?_ _)); refine blk_put (cs := #[.int .i64 t296, .slice none 0 0]) ?_ 1 _ rfl; (with_reducible repeat (first | refine blk_drewN ?_ _ | refine blk_drew ?_ | refine blk_alloc ?_ _)); refine blk_put (cs := #[.int .i64 0, .slice none 0 0]) ?_ 0 _ rfl; (with_reducible repeat (first | refine blk_drewN ?_ _ | refine blk_drew ?_ | refine blk_alloc ?_ _)); exact BK301.out) hb); have n5_ := Aside0.mk (below_step (by repeat (first | (with_reducible first | exact HB.out | apply below_alloc | apply pw_below_drewN | apply below_drew1 | refine below_set ?_ GE291.out | refine below_set ?_ GE292.out | refine below_set ?_ GE301.out) | exact HB.out)) hb); clear HO299; clear BK291; clear BK292; clear BK301; clear HB; have HO299 := n0_; have HO305 := n1_; have BK291 := n2_; have BK292 := n3_; have BK301 := n4_; have HB := n5_; clear n0_ n1_ n2_ n3_ n4_ n5_; (try clear hb); (try clear hb2); (try clear hk); (try clear hi); (try clear ho0); have hnb51 := NB292_301.out; have hnc51 := NB301_292.out; have hcz52_0 : w50.cell? ⟨gb292, 0, none⟩ = some (.int .i64 a2_0) := (blk_cell BK292.out 0).trans rfl; have hcz52_1 : w50.cell? ⟨gb292, 1, none⟩ = some (.int .i64 a2_1) := (blk_cell BK292.out 1).trans rfl; have hfz52_0 := blk_frozen BK292.out 0; have hfz52_1 := blk_frozen BK292.out 1; have p36 : 0 ≤ ((ji29) : Int) := of_decide_eq_true (by first | (with_reducible assumption) | assumption); have q36 : ((ji29) : Int) < ((t303.length : Int) : Int) := of_decide_eq_true (by first | (with_reducible assumption) | assumption); obtain ⟨go36, co36, eo36, gb36, gl36, cl36, HG36⟩ := Kd.R_form HO305.out (by omega); (first | cases eo36 | (injection eo36 with ea_ en_ ec_; (first | subst ea_ | (injection ea_ with ea_; subst ea_)); subst ec_; clear en_)); have GB36 := Aside0.mk gb36; have GG36 := Aside0.mk HG36; clear gb36 gl36 HG36; obtain ⟨hx36_0, hf36_0⟩ := Kd.R_celln 0 HO305.out ((ji29) : Int) p36 q36; replace p36 := eq_true p36; replace q36 := eq_true q36; obtain ⟨hy53_, hz53_⟩ := Kd.R_celln 0 HO305.out ((ji29) : Int) (of_decide_eq_true (by first | (with_reducible assumption) | assumption)) (of_decide_eq_true (by first | (with_reducible assumption) | assumption)); have HP53 := Kd.R_putg HO305.out ((ji29) : Int) (Go.bits .and .i64 a2_1 1048575)) | ((with_reducible refine gate_store (t := 3) (p := 59) rfl ?_); refine store_event (t := 3) (p := 59) (v := ?vo_w54) (w1 := (w50.setCell ⟨go36, ((ji29) : Int).toNat, none⟩ (.int .i64 (Go.bits .and .i64 a2_1 1048575)))) ?hg ?ho ?hn ?hr ?_; (case ho => rfl); (case hg => rfl); (case hn => rfl); (case hr => first | (go_simp; done) | (go_simp; rfl)); intro w54 hw; have hg : w50.grownBy w54 (some go36) := (by rw [hw]; exact HP53.2); have hp_ : Kd.R (Kd.int .i64) 3 w54 w.heap.size (fun _ => True) (.slice (some ⟨go36, 0, none⟩) t303.length co36) y306 := (by rw [hw, Ny306.out]; exact HP53.1); clear HP53; have n0_ := Aside0.mk (blk_grown (g := gb291) (o := .cells #[.int .i64 a0_0, .slice A0_1 l0_1.length c0_1] 24 (0, 0)) (by (with_reducible repeat (first | refine blk_drewN ?_ _ | refine blk_drew ?_ | refine blk_alloc ?_ _)); exact BK291.out) hg (Kd.R_ne HO305.out BK291.out (by decide))); have n1_ := Aside0.mk (blk_grown (g := gb292) (o := .cells #[.int .i64 a2_0, .int .i64 a2_1] 55 (0, 0)) (by (with_reducible repeat (first | refine blk_drewN ?_ _ | refine blk_drew ?_ | refine blk_alloc ?_ _)); exact BK292.out) hg (Kd.R_ne HO305.out BK292.out (by decide))); have n2_ := Aside0.mk (Kd.S_after (v := (.slice (some ⟨go36, 0, none⟩) t303.length co36)) (v1 := (.slice (some ⟨go36, 0, none⟩) t303.length co36)) (ok := (fun _ => True)) (by (with_reducible repeat (first | apply Kd.S_alloc | apply Kd.S_drewN | apply Kd.S_drew)); exact HO299.out) hg (.inl rfl)); have n3_ := Aside0.mk (blk_grown (g := gb301) (o := .cells #[.int .i64 t296, .slice Ao48 t297.length co48] 24 (0, 0)) (by (with_reducible repeat (first | refine blk_drewN ?_ _ | refine blk_drew ?_ | refine blk_alloc ?_ _)); exact BK301.out) hg (Kd.R_ne HO305.out BK301.out (by decide))); have n4_ := Aside0.mk (hp_); have n5_ := Aside0.mk ((by rw [hw]; exact below_set (HB.out) GB36.out : Below w.heap.size w w54)); clear BK291; clear BK292; clear HO299; clear BK301; clear HO305; clear HB; have BK291 := n0_; have BK292 := n1_; have HO299 := n2_; have BK301 := n3_; have HO305 := n4_; have HB := n5_; clear n0_ n1_ n2_ n3_ n4_ n5_; clear hg hw hp_))
                    have n0_ := Aside0.mk (Kd.S_drew HO299.out)
                    have n1_ := Aside0.mk (Kd.R_drew HO305.out)
                    have n2_ := Aside0.mk (blk_drew BK291.out)
                    have n3_ := Aside0.mk (blk_drew BK292.out)
                    have n4_ := Aside0.mk (blk_drew BK301.out)
                    have n5_ := Aside0.mk (below_drew1 HB.out)
                    clear HO299
                    clear HO305
                    clear BK291
                    clear BK292
                    clear BK301
                    clear HB
                    have HO299 := n0_
                    have HO305 := n1_
                    have BK291 := n2_
                    have BK292 := n3_
                    have BK301 := n4_
                    have HB := n5_
                    clear n0_ n1_ n2_ n3_ n4_ n5_
                    refine start_ (n := 11) (S := fun w' => w'.cell? ⟨gb291, 0, none⟩ = some (.int .i64 a0_0) ∧ w'.cell? ⟨gb291, 1, none⟩ = some (.slice A0_1 l0_1.length c0_1) ∧ w'.cell? ⟨gb301, 0, none⟩ = some (.int .i64 t296) ∧ w'.cell? ⟨gb301, 1, none⟩ = some (.slice Ao48 t297.length co48)) (ds := []) #[false, false, false, false, false, false, false, false, false, false, false] (by kernel_rfl) rfl rfl ⟨(blk_cell BK291.out 0).trans rfl, (blk_cell BK291.out 1).trans rfl, (blk_cell BK301.out 0).trans rfl, (blk_cell BK301.out 1).trans rfl⟩ (fun hHeld => ?_); refine with_tabW familychecklaw01_LinearSubstituteMeans.tab9 familychecklaw01_LinearSubstituteMeans.bits9 (fun HT_ HW_ => ?_)
                    generalize w54.drew = w55 at HO299 HO305 BK291 BK292 BK301 HB hHeld ⊢
                    refine pure_ (i := 1) (N := some 61) (v := ?_) (a' := ?_) #[false, true, false, false, false, false, false, false, false, false, false] rfl rfl (any_of HT_.out (by kernel_rfl)) (fun _ _ _ h => h) (Or.inl ⟨by rfl, ?_⟩) ?_ ?_
                    rotate_left
                    · intro w'
                      go_simp
                      with_reducible rfl
                    rotate_left
                    · simp only [Act.put, List.setIfInBounds_toArray, List.set_cons_zero, List.set_cons_succ, i64_w, i32_w]
                      rfl
                    refine pure_ (i := 4) (N := some 64) (v := ?_) (a' := ?_) #[false, true, false, false, true, false, false, false, false, false, false] rfl rfl (any_of HT_.out (by kernel_rfl)) (fun _ _ _ h => h) (Or.inl ⟨by rfl, ?_⟩) ?_ ?_
                    rotate_left
                    · intro w'
                      go_simp
                      with_reducible rfl
                    rotate_left
                    · simp only [Act.put, List.setIfInBounds_toArray, List.set_cons_zero, List.set_cons_succ, i64_w, i32_w]
                      rfl
                    refine take_ (i := 0) (N := some 60) (v := ?_) (a' := ?_) #[true, true, false, false, true, false, false, false, false, false, false] rfl rfl (take_ofW HT_.out HW_.out (by kernel_rfl)) (fun _ _ _ h => h) (Or.inl ⟨by rfl, ?_⟩) hHeld ?_ ?_
                    rotate_left
                    · rintro w' ⟨s0, s1, s2, s3⟩
                      go_simp
                      with_reducible rfl
                    rotate_left
                    · simp only [Act.put, List.setIfInBounds_toArray, List.set_cons_zero, List.set_cons_succ, i64_w, i32_w]
                      rfl
                    refine take_ (i := 3) (N := some 63) (v := ?_) (a' := ?_) #[true, true, false, true, true, false, false, false, false, false, false] rfl rfl (take_ofW HT_.out HW_.out (by kernel_rfl)) (fun _ _ _ h => h) (Or.inl ⟨by rfl, ?_⟩) hHeld ?_ ?_
                    rotate_left
                    · rintro w' ⟨s0, s1, s2, s3⟩
                      go_simp
                      with_reducible rfl
                    rotate_left
                    · simp only [Act.put, List.setIfInBounds_toArray, List.set_cons_zero, List.set_cons_succ, i64_w, i32_w]
                      rfl
                    refine one_ (i := 2) (N := some 62) #[true, true, true, true, true, false, false, false, false, false, false] rfl rfl (one_of HT_.out (by kernel_rfl)) (by decide) (fun K hK => ?_)
                    refine goes_ Tryd.func24 (by kernel_rfl) rfl #[.agg #[.int .i64 a0_0, .slice A0_1 l0_1.length c0_1], .slice (some ad295) l1.length c1] (by rfl) rfl rfl (by (try simp only [List.map_toArray, List.map_cons, List.map_nil]); first | done | rfl | (simp only [List.length_drop, List.length_take]; rfl)) ?_
                    with_reducible refine (linear_Satisfies.calls kj3 a0_0 _ _ l0_1 _ _ l1 t307 _ ?side1 ?side2 ?side3 ?side4 A37.out).mono ?_
                    (case side1 => repeat (first | exact (Kd.C_below HR0_1.out HB.out) | (with_reducible refine Kd.C_alloc ?_ _) | (with_reducible refine Kd.C_drewN ?_ _) | (with_reducible refine Kd.C_drew ?_)))
                    (case side2 => exact HC0_1.out)
                    (case side3 => repeat (first | exact (Kd.C_below HR1.out HB.out) | (with_reducible refine Kd.C_alloc ?_ _) | (with_reducible refine Kd.C_drewN ?_ _) | (with_reducible refine Kd.C_drew ?_)))
                    (case side4 => exact HC1.out)
                    rintro e w56 ⟨rfl, hb⟩
                    refine ⟨_, rfl, ?_⟩
                    have n0_ := Aside0.mk (Kd.S_below (by (with_reducible repeat (first | apply Kd.S_alloc | apply Kd.S_drewN | apply Kd.S_drew)); exact HO299.out) hb)
                    have n1_ := Aside0.mk (Kd.R_below (by (with_reducible repeat (first | apply Kd.R_alloc | apply Kd.R_drewN | apply Kd.R_drew)); exact HO305.out) hb)
                    have n2_ := Aside0.mk (blk_below (g := gb291) (o := .cells #[.int .i64 a0_0, .slice A0_1 l0_1.length c0_1] 24 (0, 0)) (by (with_reducible repeat (first | refine blk_drewN ?_ _ | refine blk_drew ?_ | refine blk_alloc ?_ _)); exact BK291.out) hb)
                    have n3_ := Aside0.mk (blk_below (g := gb292) (o := .cells #[.int .i64 a2_0, .int .i64 a2_1] 55 (0, 0)) (by (with_reducible repeat (first | refine blk_drewN ?_ _ | refine blk_drew ?_ | refine blk_alloc ?_ _)); exact BK292.out) hb)
                    have n4_ := Aside0.mk (blk_below (g := gb301) (o := .cells #[.int .i64 t296, .slice Ao48 t297.length co48] 24 (0, 0)) (by (with_reducible repeat (first | refine blk_drewN ?_ _ | refine blk_drew ?_ | refine blk_alloc ?_ _)); exact BK301.out) hb)
                    have n5_ := Aside0.mk (below_step (by repeat (first | (with_reducible first | exact HB.out | apply below_alloc | apply pw_below_drewN | apply below_drew1 | refine below_set ?_ GE291.out | refine below_set ?_ GE292.out | refine below_set ?_ GE301.out) | exact HB.out)) hb)
                    clear HO299
                    clear HO305
                    clear BK291
                    clear BK292
                    clear BK301
                    clear HB
                    have HO299 := n0_
                    have HO305 := n1_
                    have BK291 := n2_
                    have BK292 := n3_
                    have BK301 := n4_
                    have HB := n5_
                    clear n0_ n1_ n2_ n3_ n4_ n5_
                    (try clear hb)
                    (try clear hb2)
                    (try clear hk)
                    (try clear hi)
                    refine hK.out _ _ ⟨(blk_cell BK291.out 0).trans rfl, (blk_cell BK291.out 1).trans rfl, (blk_cell BK301.out 0).trans rfl, (blk_cell BK301.out 1).trans rfl⟩ (fun hHeld => ?_)
                    clear hK K
                    refine norm_ (a' := ?_) ?_ ?_
                    rotate_left
                    · show Act.put _ (some 62) _ = _
                      simp only [Act.put, List.setIfInBounds_toArray, List.set_cons_zero, List.set_cons_succ, i64_w, i32_w]
                      rfl
                    refine one_ (i := 5) (N := some 65) #[true, true, true, true, true, true, false, false, false, false, false] rfl rfl (one_of HT_.out (by kernel_rfl)) (by decide) (fun K hK => ?_)
                    refine goes_ Tryd.func24 (by kernel_rfl) rfl #[.agg #[.int .i64 t296, .slice Ao48 t297.length co48], .slice (some ⟨go36, 0, none⟩) y306.length co36] (by rfl) rfl rfl (by (try simp only [List.map_toArray, List.map_cons, List.map_nil]); first | done | (rw [show y306.length = t303.length from (Kd.R_reads' HO305.out).1.symm] <;> rfl) | rfl | (simp only [List.length_drop, List.length_take]; rfl)) ?_
                    with_reducible refine (linear_Satisfies.calls kj3 t296 _ _ t297 _ _ y306 t308 _ ?side1 ?side2 ?side3 ?side4 A38.out).mono ?_
                    (case side1 => repeat (first | exact (Kd.S_reads' HO299.out).2.2 | (with_reducible refine Kd.C_alloc ?_ _) | (with_reducible refine Kd.C_drewN ?_ _) | (with_reducible refine Kd.C_drew ?_)))
                    (case side2 => exact (Kd.S_reads' HO299.out).2.1)
                    (case side3 => repeat (first | exact (Kd.R_reads' HO305.out).2.2 | (with_reducible refine Kd.C_alloc ?_ _) | (with_reducible refine Kd.C_drewN ?_ _) | (with_reducible refine Kd.C_drew ?_)))
                    (case side4 => rw [show y306.length = t303.length from (Kd.R_reads' HO305.out).1.symm]; exact (Kd.R_reads' HO305.out).2.1)
                    rintro e w57 ⟨rfl, hb⟩
                    refine ⟨_, rfl, ?_⟩
                    have n0_ := Aside0.mk (Kd.S_below (by (with_reducible repeat (first | apply Kd.S_alloc | apply Kd.S_drewN | apply Kd.S_drew)); exact HO299.out) hb)
                    have n1_ := Aside0.mk (Kd.R_below (by (with_reducible repeat (first | apply Kd.R_alloc | apply Kd.R_drewN | apply Kd.R_drew)); exact HO305.out) hb)
                    have n2_ := Aside0.mk (blk_below (g := gb291) (o := .cells #[.int .i64 a0_0, .slice A0_1 l0_1.length c0_1] 24 (0, 0)) (by (with_reducible repeat (first | refine blk_drewN ?_ _ | refine blk_drew ?_ | refine blk_alloc ?_ _)); exact BK291.out) hb)
                    have n3_ := Aside0.mk (blk_below (g := gb292) (o := .cells #[.int .i64 a2_0, .int .i64 a2_1] 55 (0, 0)) (by (with_reducible repeat (first | refine blk_drewN ?_ _ | refine blk_drew ?_ | refine blk_alloc ?_ _)); exact BK292.out) hb)
                    have n4_ := Aside0.mk (blk_below (g := gb301) (o := .cells #[.int .i64 t296, .slice Ao48 t297.length co48] 24 (0, 0)) (by (with_reducible repeat (first | refine blk_drewN ?_ _ | refine blk_drew ?_ | refine blk_alloc ?_ _)); exact BK301.out) hb)
                    have n5_ := Aside0.mk (below_step (by repeat (first | (with_reducible first | exact HB.out | apply below_alloc | apply pw_below_drewN | apply below_drew1 | refine below_set ?_ GE291.out | refine below_set ?_ GE292.out | refine below_set ?_ GE301.out) | exact HB.out)) hb)
                    clear HO299
                    clear HO305
                    clear BK291
                    clear BK292
                    clear BK301
                    clear HB
                    have HO299 := n0_
                    have HO305 := n1_
                    have BK291 := n2_
                    have BK292 := n3_
                    have BK301 := n4_
                    have HB := n5_
                    clear n0_ n1_ n2_ n3_ n4_ n5_
                    (try clear hb)
                    (try clear hb2)
                    (try clear hk)
                    (try clear hi)
                    refine hK.out _ _ ⟨(blk_cell BK291.out 0).trans rfl, (blk_cell BK291.out 1).trans rfl, (blk_cell BK301.out 0).trans rfl, (blk_cell BK301.out 1).trans rfl⟩ (fun hHeld => ?_)
                    clear hK K
                    refine norm_ (a' := ?_) ?_ ?_
                    rotate_left
                    · show Act.put _ (some 65) _ = _
                      simp only [Act.put, List.setIfInBounds_toArray, List.set_cons_zero, List.set_cons_succ, i64_w, i32_w]
                      rfl
                    refine pure_ (i := 6) (N := some 66) (v := ?_) (a' := ?_) #[true, true, true, true, true, true, true, false, false, false, false] rfl rfl (any_of HT_.out (by kernel_rfl)) (fun _ _ _ h => h) (Or.inl ⟨by rfl, ?_⟩) ?_ ?_
                    rotate_left
                    · intro w'
                      go_simp
                      with_reducible rfl
                    rotate_left
                    · simp only [Act.put, List.setIfInBounds_toArray, List.set_cons_zero, List.set_cons_succ, i64_w, i32_w]
                      rfl
                    refine pure_ (i := 7) (N := some 67) (v := ?_) (a' := ?_) #[true, true, true, true, true, true, true, true, false, false, false] rfl rfl (any_of HT_.out (by kernel_rfl)) (fun _ _ _ h => h) (Or.inl ⟨by rfl, ?_⟩) ?_ ?_
                    rotate_left
                    · intro w'
                      go_simp
                      with_reducible rfl
                    rotate_left
                    · simp only [Act.put, List.setIfInBounds_toArray, List.set_cons_zero, List.set_cons_succ, i64_w, i32_w]
                      rfl
                    refine one_ (i := 8) (N := some 68) #[true, true, true, true, true, true, true, true, true, false, false] rfl rfl (one_of HT_.out (by kernel_rfl)) (by decide) (fun K hK => ?_)
                    refine goes_ Tryd.func16 (by kernel_rfl) rfl #[] (by rfl) rfl rfl (by (try simp only [List.map_toArray, List.map_cons, List.map_nil]); first | done | rfl | (simp only [List.length_drop, List.length_take]; rfl)) ?_
                    with_reducible refine (familychecklaw01_known.calls kj3  t309 _ A40.out).mono ?_
                    rintro e w58 ⟨rfl, hb⟩
                    refine ⟨_, rfl, ?_⟩
                    have n0_ := Aside0.mk (Kd.S_below (by (with_reducible repeat (first | apply Kd.S_alloc | apply Kd.S_drewN | apply Kd.S_drew)); exact HO299.out) hb)
                    have n1_ := Aside0.mk (Kd.R_below (by (with_reducible repeat (first | apply Kd.R_alloc | apply Kd.R_drewN | apply Kd.R_drew)); exact HO305.out) hb)
                    have n2_ := Aside0.mk (blk_below (g := gb291) (o := .cells #[.int .i64 a0_0, .slice A0_1 l0_1.length c0_1] 24 (0, 0)) (by (with_reducible repeat (first | refine blk_drewN ?_ _ | refine blk_drew ?_ | refine blk_alloc ?_ _)); exact BK291.out) hb)
                    have n3_ := Aside0.mk (blk_below (g := gb292) (o := .cells #[.int .i64 a2_0, .int .i64 a2_1] 55 (0, 0)) (by (with_reducible repeat (first | refine blk_drewN ?_ _ | refine blk_drew ?_ | refine blk_alloc ?_ _)); exact BK292.out) hb)
                    have n4_ := Aside0.mk (blk_below (g := gb301) (o := .cells #[.int .i64 t296, .slice Ao48 t297.length co48] 24 (0, 0)) (by (with_reducible repeat (first | refine blk_drewN ?_ _ | refine blk_drew ?_ | refine blk_alloc ?_ _)); exact BK301.out) hb)
                    have n5_ := Aside0.mk (below_step (by repeat (first | (with_reducible first | exact HB.out | apply below_alloc | apply pw_below_drewN | apply below_drew1 | refine below_set ?_ GE291.out | refine below_set ?_ GE292.out | refine below_set ?_ GE301.out) | exact HB.out)) hb)
                    clear HO299
                    clear HO305
                    clear BK291
                    clear BK292
                    clear BK301
                    clear HB
                    have HO299 := n0_
                    have HO305 := n1_
                    have BK291 := n2_
                    have BK292 := n3_
                    have BK301 := n4_
                    have HB := n5_
                    clear n0_ n1_ n2_ n3_ n4_ n5_
                    (try clear hb)
                    (try clear hb2)
                    (try clear hk)
                    (try clear hi)
                    refine hK.out _ _ ⟨(blk_cell BK291.out 0).trans rfl, (blk_cell BK291.out 1).trans rfl, (blk_cell BK301.out 0).trans rfl, (blk_cell BK301.out 1).trans rfl⟩ (fun hHeld => ?_)
                    clear hK K
                    refine norm_ (a' := ?_) ?_ ?_
                    rotate_left
                    · show Act.put _ (some 68) _ = _
                      simp only [Act.put, List.setIfInBounds_toArray, List.set_cons_zero, List.set_cons_succ, i64_w, i32_w]
                      rfl
                    refine pure_ (i := 9) (N := some 69) (v := ?_) (a' := ?_) #[true, true, true, true, true, true, true, true, true, true, false] rfl rfl (any_of HT_.out (by kernel_rfl)) (fun _ _ _ h => h) (Or.inl ⟨by rfl, ?_⟩) ?_ ?_
                    rotate_left
                    · intro w'
                      go_simp
                      with_reducible rfl
                    rotate_left
                    · simp only [Act.put, List.setIfInBounds_toArray, List.set_cons_zero, List.set_cons_succ, i64_w, i32_w]
                      rfl
                    refine pure_ (i := 10) (N := some 6) (v := ?_) (a' := ?_) #[true, true, true, true, true, true, true, true, true, true, true] rfl rfl (any_of HT_.out (by kernel_rfl)) (fun _ _ _ h => h) (Or.inl ⟨by rfl, ?_⟩) ?_ ?_
                    rotate_left
                    · intro w'
                      go_simp
                      with_reducible rfl
                    rotate_left
                    · simp only [Act.put, List.setIfInBounds_toArray, List.set_cons_zero, List.set_cons_succ, i64_w, i32_w]
                      rfl
                    refine done_ (done_of HT_.out (by kernel_rfl)) ?_
                    try go_wp2
                    go_ret
                    exact ⟨by first | rfl | (simp [errW_none, errW_some] <;> rfl) | (simp only [← hji29]; first | rfl | (simp [errW_none, errW_some] <;> rfl)) | (simp [*, errW_none, errW_some] <;> rfl), by repeat (first | (with_reducible first | exact HB.out | apply below_alloc | apply pw_below_drewN | apply below_drew1 | refine below_set ?_ GE291.out | refine below_set ?_ GE292.out | refine below_set ?_ GE301.out) | exact HB.out)⟩
                  · rw [if_neg c39] at H
                    have c39b0 : (t307 == t308) = false := by simpa using c39
                    (try (have c39b1 : decide (t307 = t308) = false := by simpa using c39))
                    (try (have c39b2 : (t307 == t308) = false := by simpa using c39))
                    (try (have c39b3 : ¬ (t307 = t308) := by simpa using c39))
                    clear c39
                    obtain rfl := Option.some.inj H
                    have hnb59 := NB292_291.out
                    have hnc59 := NB291_292.out
                    have hcz60_0 : wc.cell? ⟨gb292, 0, none⟩ = some (.int .i64 a2_0) := (blk_cell BK292.out 0).trans rfl
                    have hcz60_1 : wc.cell? ⟨gb292, 1, none⟩ = some (.int .i64 a2_1) := (blk_cell BK292.out 1).trans rfl
                    have hfz60_0 := blk_frozen BK292.out 0
                    have hfz60_1 := blk_frozen BK292.out 1
                    try go_wp2
                    have n0_ := Aside0.mk (blk_drew BK291.out)
                    have n1_ := Aside0.mk (blk_drew BK292.out)
                    have n2_ := Aside0.mk (below_drew1 HB.out)
                    clear BK291
                    clear BK292
                    clear HB
                    have BK291 := n0_
                    have BK292 := n1_
                    have HB := n2_
                    clear n0_ n1_ n2_
                    have p295 : 0 ≤ ((ji29) : Int) := of_decide_eq_true (by first | (with_reducible assumption) | assumption)
                    have q295 : (ji29) < (l1.length : Int) := of_decide_eq_true (by first | (with_reducible assumption) | assumption)
                    obtain ⟨ad295, e295, hx295_0⟩ := Kd.at_int HR1.out (ji29) p295 q295
                    have hw295_0 := hx295_0
                    cases e295
                    replace hx295_0 := (HB.out.cell (World.block_lt_of_cell? w _ hx295_0)).trans hx295_0
                    replace p295 := eq_true p295
                    replace q295 := eq_true q295
                    refine start_ (n := 13) (S := fun w' => w'.cell? ⟨gb291, 0, none⟩ = some (.int .i64 a0_0) ∧ w'.cell? ⟨gb291, 1, none⟩ = some (.slice A0_1 l0_1.length c0_1) ∧ w'.cell? (ad295.add ((ji29)).toNat) = some (.int .i64 (rd l1 (ji29)))) (ds := []) #[false, false, false, false, false, false, false, false, false, false, false, false, false] (by kernel_rfl) rfl rfl ⟨(blk_cell BK291.out 0).trans rfl, (blk_cell BK291.out 1).trans rfl, ((HB.out.cell (World.block_lt_of_cell? w _ hw295_0)).trans hw295_0)⟩ (fun hHeld => ?_); refine with_tabW familychecklaw01_LinearSubstituteMeans.tab4 familychecklaw01_LinearSubstituteMeans.bits4 (fun HT_ HW_ => ?_)
                    generalize wc.drew = w61 at BK291 BK292 HB hx295_0 hHeld ⊢
                    refine pure_ (i := 1) (N := some 41) (v := ?_) (a' := ?_) #[false, true, false, false, false, false, false, false, false, false, false, false, false] rfl rfl (any_of HT_.out (by kernel_rfl)) (fun _ _ _ h => h) (Or.inl ⟨by rfl, ?_⟩) ?_ ?_
                    rotate_left
                    · intro w'
                      go_simp
                      with_reducible rfl
                    rotate_left
                    · simp only [Act.put, List.setIfInBounds_toArray, List.set_cons_zero, List.set_cons_succ, i64_w, i32_w]
                      rfl
                    refine pure_ (i := 2) (N := some 42) (v := ?_) (a' := ?_) #[false, true, true, false, false, false, false, false, false, false, false, false, false] rfl rfl (any_of HT_.out (by kernel_rfl)) (fun _ _ _ h => h) (Or.inl ⟨by rfl, ?_⟩) ?_ ?_
                    rotate_left
                    · intro w'
                      go_simp
                      with_reducible rfl
                    rotate_left
                    · simp only [Act.put, List.setIfInBounds_toArray, List.set_cons_zero, List.set_cons_succ, i64_w, i32_w]
                      rfl
                    refine pure_ (i := 3) (N := some 43) (v := ?_) (a' := ?_) #[false, true, true, true, false, false, false, false, false, false, false, false, false] rfl rfl (any_of HT_.out (by kernel_rfl)) (fun _ _ _ h => h) (Or.inl ⟨by rfl, ?_⟩) ?_ ?_
                    rotate_left
                    · intro w'
                      go_simp
                      with_reducible rfl
                    rotate_left
                    · simp only [Act.put, List.setIfInBounds_toArray, List.set_cons_zero, List.set_cons_succ, i64_w, i32_w]
                      rfl
                    refine pure_ (i := 4) (N := some 44) (v := ?_) (a' := ?_) #[false, true, true, true, true, false, false, false, false, false, false, false, false] rfl rfl (any_of HT_.out (by kernel_rfl)) (fun _ _ _ h => h) (Or.inl ⟨by rfl, ?_⟩) ?_ ?_
                    rotate_left
                    · intro w'
                      go_simp
                      with_reducible rfl
                    rotate_left
                    · simp only [Act.put, List.setIfInBounds_toArray, List.set_cons_zero, List.set_cons_succ, i64_w, i32_w]
                      rfl
                    refine take_ (i := 0) (N := some 40) (v := ?_) (a' := ?_) #[true, true, true, true, true, false, false, false, false, false, false, false, false] rfl rfl (take_ofW HT_.out HW_.out (by kernel_rfl)) (fun _ _ _ h => h) (Or.inl ⟨by rfl, ?_⟩) hHeld ?_ ?_
                    rotate_left
                    · rintro w' ⟨s0, s1, s2⟩
                      go_simp
                      with_reducible rfl
                    rotate_left
                    · simp only [Act.put, List.setIfInBounds_toArray, List.set_cons_zero, List.set_cons_succ, i64_w, i32_w]
                      rfl
                    refine take_ (i := 5) (N := some 45) (v := ?_) (a' := ?_) #[true, true, true, true, true, true, false, false, false, false, false, false, false] rfl rfl (take_ofW HT_.out HW_.out (by kernel_rfl)) (fun _ _ _ h => h) (Or.inl ⟨by rfl, ?_⟩) hHeld ?_ ?_
                    rotate_left
                    · rintro w' ⟨s0, s1, s2⟩
                      go_simp
                      with_reducible rfl
                    rotate_left
                    · simp only [Act.put, List.setIfInBounds_toArray, List.set_cons_zero, List.set_cons_succ, i64_w, i32_w]
                      rfl
                    refine join_ (σ := Value × Nat) 2 #[true, true, true, true, true, true, true, true, true, true, true, false, false] (fun s_ => [(46, .tuple #[.agg #[.int .i64 t296, s_.1], .int .i64 t300]), (8, .pointer (some ⟨s_.2, 0, none⟩)), (39, .tuple #[.agg #[.int .i64 t296, s_.1], .int .i64 t300]), (47, .agg #[.int .i64 t296, s_.1]), (48, .int .i64 t300)]) (fun s_ w' => (w'.cell? ⟨gb291, 0, none⟩ = some (.int .i64 a0_0) ∧ w'.cell? ⟨gb291, 1, none⟩ = some (.slice A0_1 l0_1.length c0_1) ∧ w'.cell? (ad295.add ((ji29)).toNat) = some (.int .i64 (rd l1 (ji29)))) ∧ (Kd.S k33 33 w' w.heap.size (fun _ => True) s_.1 t297) ∧ (w'.heap[gb291]? = some (.cells #[.int .i64 a0_0, .slice A0_1 l0_1.length c0_1] 24 (0, 0))) ∧ (w'.heap[gb292]? = some (.cells #[.int .i64 a2_0, .int .i64 a2_1] 55 (0, 0))) ∧ (w'.heap[s_.2]? = some (.cells #[.int .i64 0, .slice none 0 0] 24 (0, 0))) ∧ (w.heap.size ≤ s_.2) ∧ (w.heap.size ≤ s_.2) ∧ (gb291 ≠ s_.2) ∧ (s_.2 ≠ gb291) ∧ (gb292 ≠ s_.2) ∧ (s_.2 ≠ gb292) ∧ (Below w.heap.size w w')) ?_ ?_
                    rotate_left
                    · intro hCont
                      refine two_ (i := 6) (j := 10) (Ni := some 46) (Nj := some 8) #[true, true, true, true, true, true, true, false, false, false, false, false, false] #[true, true, true, true, true, true, false, false, false, false, true, false, false] rfl rfl rfl rfl (two_of HT_.out (by kernel_rfl)) (by decide) (by decide) (fun K hK => ?_) (fun K hK => ?_)
                      · skip
                        refine goes_ Tryd.func43 (by kernel_rfl) rfl #[.agg #[.int .i64 a0_0, .slice A0_1 l0_1.length c0_1], .int .i64 ji29, .int .i64 (rd l1 (ji29))] (by rfl) rfl rfl (by (try simp only [List.map_toArray, List.map_cons, List.map_nil]); first | done | (simp only [hji29]; rfl) | rfl | (simp only [List.length_drop, List.length_take]; rfl)) ?_
                        with_reducible refine (linear_Substitute.calls kj3 a0_0 _ _ l0_1 ji29 (rd l1 (ji29)) t296 t297 t300 _ ?side1 ?side2 A32.out).mono ?_
                        (case side1 => repeat (first | exact (Kd.C_below HR0_1.out HB.out) | (with_reducible refine Kd.C_alloc ?_ _) | (with_reducible refine Kd.C_drewN ?_ _) | (with_reducible refine Kd.C_drew ?_)))
                        (case side2 => exact HC0_1.out)
                        rintro e w62 ⟨v298, rfl, ho0, hb⟩
                        refine ⟨_, rfl, ?_⟩
                        have n0_ := Aside0.mk (Kd.S_lower ho0 (below_size (by repeat (first | (with_reducible first | exact HB.out | apply below_alloc | apply pw_below_drewN | apply below_drew1 | refine below_set ?_ GE291.out | refine below_set ?_ GE292.out) | exact HB.out))))
                        have n1_ := Aside0.mk (blk_below (g := gb291) (o := .cells #[.int .i64 a0_0, .slice A0_1 l0_1.length c0_1] 24 (0, 0)) (by (with_reducible repeat (first | refine blk_drewN ?_ _ | refine blk_drew ?_ | refine blk_alloc ?_ _)); exact BK291.out) hb)
                        have n2_ := Aside0.mk (blk_below (g := gb292) (o := .cells #[.int .i64 a2_0, .int .i64 a2_1] 55 (0, 0)) (by (with_reducible repeat (first | refine blk_drewN ?_ _ | refine blk_drew ?_ | refine blk_alloc ?_ _)); exact BK292.out) hb)
                        have n3_ := Aside0.mk (below_step (by repeat (first | (with_reducible first | exact HB.out | apply below_alloc | apply pw_below_drewN | apply below_drew1 | refine below_set ?_ GE291.out | refine below_set ?_ GE292.out) | exact HB.out)) hb)
                        clear BK291
                        clear BK292
                        clear HB
                        have HO299 := n0_
                        have BK291 := n1_
                        have BK292 := n2_
                        have HB := n3_
                        clear n0_ n1_ n2_ n3_
                        (try clear hb)
                        (try clear hb2)
                        (try clear hk)
                        (try clear hi)
                        (try clear ho0)
                        refine hK.out _ _ ⟨(blk_cell BK291.out 0).trans rfl, (blk_cell BK291.out 1).trans rfl, ((HB.out.cell (World.block_lt_of_cell? w _ hw295_0)).trans hw295_0)⟩ (fun hHeld => ?_)
                        clear hK K
                        refine norm_ (a' := ?_) ?_ ?_
                        rotate_left
                        · show Act.put _ (some 46) _ = _
                          simp only [Act.put, List.setIfInBounds_toArray, List.set_cons_zero, List.set_cons_succ, i64_w, i32_w]
                          rfl
                        refine pure_ (i := 7) (N := some 39) (v := ?_) (a' := ?_) #[true, true, true, true, true, true, true, true, false, false, false, false, false] rfl rfl (any_of HT_.out (by kernel_rfl)) (fun _ _ _ h => h) (Or.inl ⟨by rfl, ?_⟩) ?_ ?_
                        rotate_left
                        · intro w'
                          go_simp
                          with_reducible rfl
                        rotate_left
                        · simp only [Act.put, List.setIfInBounds_toArray, List.set_cons_zero, List.set_cons_succ, i64_w, i32_w]
                          rfl
                        refine pure_ (i := 8) (N := some 47) (v := ?_) (a' := ?_) #[true, true, true, true, true, true, true, true, true, false, false, false, false] rfl rfl (any_of HT_.out (by kernel_rfl)) (fun _ _ _ h => h) (Or.inl ⟨by rfl, ?_⟩) ?_ ?_
                        rotate_left
                        · intro w'
                          go_simp
                          with_reducible rfl
                        rotate_left
                        · simp only [Act.put, List.setIfInBounds_toArray, List.set_cons_zero, List.set_cons_succ, i64_w, i32_w]
                          rfl
                        refine pure_ (i := 9) (N := some 48) (v := ?_) (a' := ?_) #[true, true, true, true, true, true, true, true, true, true, false, false, false] rfl rfl (any_of HT_.out (by kernel_rfl)) (fun _ _ _ h => h) (Or.inl ⟨by rfl, ?_⟩) ?_ ?_
                        rotate_left
                        · intro w'
                          go_simp
                          with_reducible rfl
                        rotate_left
                        · simp only [Act.put, List.setIfInBounds_toArray, List.set_cons_zero, List.set_cons_succ, i64_w, i32_w]
                          rfl
                        refine one_ (i := 10) (N := some 8) #[true, true, true, true, true, true, true, true, true, true, true, false, false] rfl rfl (one_of HT_.out (by kernel_rfl)) (by decide) (fun K hK => ?_)
                        refine box_step ?hg (N := 8) ?hd (cs := #[.int .i64 0, .slice none 0 0]) (t := 24) ?hr ?_; (case hd => rfl); (case hg => rfl); (case hr => first | (go_simp; done) | (go_simp; rfl))
                        intro gb301 hg w63 hbox hb
                        have n0_ := Aside0.mk (Kd.S_below (by (with_reducible repeat (first | apply Kd.S_alloc | apply Kd.S_drewN | apply Kd.S_drew)); exact HO299.out) hb)
                        have n1_ := Aside0.mk (blk_below (g := gb291) (o := .cells #[.int .i64 a0_0, .slice A0_1 l0_1.length c0_1] 24 (0, 0)) (by (with_reducible repeat (first | refine blk_drewN ?_ _ | refine blk_drew ?_ | refine blk_alloc ?_ _)); exact BK291.out) hb)
                        have n2_ := Aside0.mk (blk_below (g := gb292) (o := .cells #[.int .i64 a2_0, .int .i64 a2_1] 55 (0, 0)) (by (with_reducible repeat (first | refine blk_drewN ?_ _ | refine blk_drew ?_ | refine blk_alloc ?_ _)); exact BK292.out) hb)
                        have n3_ := Aside0.mk (below_step (by repeat (first | (with_reducible first | exact HB.out | apply below_alloc | apply pw_below_drewN | apply below_drew1 | refine below_set ?_ GE291.out | refine below_set ?_ GE292.out) | exact HB.out)) hb)
                        have n4_ := Aside0.mk (hbox)
                        have n5_ := Aside0.mk ((by rw [hg]; exact (below_size (by repeat (first | (with_reducible first | exact HB.out | apply below_alloc | apply pw_below_drewN | apply below_drew1 | refine below_set ?_ GE291.out | refine below_set ?_ GE292.out) | exact HB.out))) : w.heap.size ≤ gb301))
                        have n6_ := Aside0.mk ((by rw [hg]; exact (below_size (by repeat (first | (with_reducible first | exact HB.out | apply below_alloc | apply pw_below_drewN | apply below_drew1 | refine below_set ?_ GE291.out | refine below_set ?_ GE292.out) | exact HB.out))) : w.heap.size ≤ gb301))
                        have n7_ := Aside0.mk ((by rw [hg]; exact Nat.ne_of_lt (blk_lt (g := gb291) (o := .cells #[.int .i64 a0_0, .slice A0_1 l0_1.length c0_1] 24 (0, 0)) (by (with_reducible repeat (first | refine blk_drewN ?_ _ | refine blk_drew ?_ | refine blk_alloc ?_ _)); exact BK291.out)) : gb291 ≠ gb301))
                        have n8_ := Aside0.mk ((by rw [hg]; exact Nat.ne_of_gt (blk_lt (g := gb291) (o := .cells #[.int .i64 a0_0, .slice A0_1 l0_1.length c0_1] 24 (0, 0)) (by (with_reducible repeat (first | refine blk_drewN ?_ _ | refine blk_drew ?_ | refine blk_alloc ?_ _)); exact BK291.out)) : gb301 ≠ gb291))
                        have n9_ := Aside0.mk ((by rw [hg]; exact Nat.ne_of_lt (blk_lt (g := gb292) (o := .cells #[.int .i64 a2_0, .int .i64 a2_1] 55 (0, 0)) (by (with_reducible repeat (first | refine blk_drewN ?_ _ | refine blk_drew ?_ | refine blk_alloc ?_ _)); exact BK292.out)) : gb292 ≠ gb301))
                        have n10_ := Aside0.mk ((by rw [hg]; exact Nat.ne_of_gt (blk_lt (g := gb292) (o := .cells #[.int .i64 a2_0, .int .i64 a2_1] 55 (0, 0)) (by (with_reducible repeat (first | refine blk_drewN ?_ _ | refine blk_drew ?_ | refine blk_alloc ?_ _)); exact BK292.out)) : gb301 ≠ gb292))
                        clear HO299
                        clear BK291
                        clear BK292
                        clear HB
                        have HO299 := n0_
                        have BK291 := n1_
                        have BK292 := n2_
                        have HB := n3_
                        have BK301 := n4_
                        have GW301 := n5_
                        have GE301 := n6_
                        have NB291_301 := n7_
                        have NB301_291 := n8_
                        have NB292_301 := n9_
                        have NB301_292 := n10_
                        clear n0_ n1_ n2_ n3_ n4_ n5_ n6_ n7_ n8_ n9_ n10_
                        clear hb hbox hg
                        refine hK.out _ _ ⟨(blk_cell BK291.out 0).trans rfl, (blk_cell BK291.out 1).trans rfl, ((HB.out.cell (World.block_lt_of_cell? w _ hw295_0)).trans hw295_0)⟩ (fun hHeld => ?_)
                        clear hK K
                        refine norm_ (a' := ?_) ?_ ?_
                        rotate_left
                        · show Act.put _ (some 8) _ = _
                          simp only [Act.put, List.setIfInBounds_toArray, List.set_cons_zero, List.set_cons_succ, i64_w, i32_w]
                          rfl
                        exact norm_ (by simp only [putAll, Act.put, List.setIfInBounds_toArray, List.set_cons_zero, List.set_cons_succ]) (hCont (v298, gb301) _ ⟨hHeld, (by (with_reducible repeat (first | apply Kd.S_alloc | apply Kd.S_drewN | apply Kd.S_drew)); exact HO299.out), (by (with_reducible repeat (first | refine blk_drewN ?_ _ | refine blk_drew ?_ | refine blk_alloc ?_ _)); exact BK291.out), (by (with_reducible repeat (first | refine blk_drewN ?_ _ | refine blk_drew ?_ | refine blk_alloc ?_ _)); exact BK292.out), (by (with_reducible repeat (first | refine blk_drewN ?_ _ | refine blk_drew ?_ | refine blk_alloc ?_ _)); exact BK301.out), GW301.out, GE301.out, NB291_301.out, NB301_291.out, NB292_301.out, NB301_292.out, (by repeat (first | (with_reducible first | exact HB.out | apply below_alloc | apply pw_below_drewN | apply below_drew1 | refine below_set ?_ GE291.out | refine below_set ?_ GE292.out | refine below_set ?_ GE301.out) | exact HB.out))⟩)
                      · skip
                        refine box_step ?hg (N := 8) ?hd (cs := #[.int .i64 0, .slice none 0 0]) (t := 24) ?hr ?_; (case hd => rfl); (case hg => rfl); (case hr => first | (go_simp; done) | (go_simp; rfl))
                        intro gb301 hg w62 hbox hb
                        have n0_ := Aside0.mk (blk_below (g := gb291) (o := .cells #[.int .i64 a0_0, .slice A0_1 l0_1.length c0_1] 24 (0, 0)) (by (with_reducible repeat (first | refine blk_drewN ?_ _ | refine blk_drew ?_ | refine blk_alloc ?_ _)); exact BK291.out) hb)
                        have n1_ := Aside0.mk (blk_below (g := gb292) (o := .cells #[.int .i64 a2_0, .int .i64 a2_1] 55 (0, 0)) (by (with_reducible repeat (first | refine blk_drewN ?_ _ | refine blk_drew ?_ | refine blk_alloc ?_ _)); exact BK292.out) hb)
                        have n2_ := Aside0.mk (below_step (by repeat (first | (with_reducible first | exact HB.out | apply below_alloc | apply pw_below_drewN | apply below_drew1 | refine below_set ?_ GE291.out | refine below_set ?_ GE292.out) | exact HB.out)) hb)
                        have n3_ := Aside0.mk (hbox)
                        have n4_ := Aside0.mk ((by rw [hg]; exact (below_size (by repeat (first | (with_reducible first | exact HB.out | apply below_alloc | apply pw_below_drewN | apply below_drew1 | refine below_set ?_ GE291.out | refine below_set ?_ GE292.out) | exact HB.out))) : w.heap.size ≤ gb301))
                        have n5_ := Aside0.mk ((by rw [hg]; exact (below_size (by repeat (first | (with_reducible first | exact HB.out | apply below_alloc | apply pw_below_drewN | apply below_drew1 | refine below_set ?_ GE291.out | refine below_set ?_ GE292.out) | exact HB.out))) : w.heap.size ≤ gb301))
                        have n6_ := Aside0.mk ((by rw [hg]; exact Nat.ne_of_lt (blk_lt (g := gb291) (o := .cells #[.int .i64 a0_0, .slice A0_1 l0_1.length c0_1] 24 (0, 0)) (by (with_reducible repeat (first | refine blk_drewN ?_ _ | refine blk_drew ?_ | refine blk_alloc ?_ _)); exact BK291.out)) : gb291 ≠ gb301))
                        have n7_ := Aside0.mk ((by rw [hg]; exact Nat.ne_of_gt (blk_lt (g := gb291) (o := .cells #[.int .i64 a0_0, .slice A0_1 l0_1.length c0_1] 24 (0, 0)) (by (with_reducible repeat (first | refine blk_drewN ?_ _ | refine blk_drew ?_ | refine blk_alloc ?_ _)); exact BK291.out)) : gb301 ≠ gb291))
                        have n8_ := Aside0.mk ((by rw [hg]; exact Nat.ne_of_lt (blk_lt (g := gb292) (o := .cells #[.int .i64 a2_0, .int .i64 a2_1] 55 (0, 0)) (by (with_reducible repeat (first | refine blk_drewN ?_ _ | refine blk_drew ?_ | refine blk_alloc ?_ _)); exact BK292.out)) : gb292 ≠ gb301))
                        have n9_ := Aside0.mk ((by rw [hg]; exact Nat.ne_of_gt (blk_lt (g := gb292) (o := .cells #[.int .i64 a2_0, .int .i64 a2_1] 55 (0, 0)) (by (with_reducible repeat (first | refine blk_drewN ?_ _ | refine blk_drew ?_ | refine blk_alloc ?_ _)); exact BK292.out)) : gb301 ≠ gb292))
                        clear BK291
                        clear BK292
                        clear HB
                        have BK291 := n0_
                        have BK292 := n1_
                        have HB := n2_
                        have BK301 := n3_
                        have GW301 := n4_
                        have GE301 := n5_
                        have NB291_301 := n6_
                        have NB301_291 := n7_
                        have NB292_301 := n8_
                        have NB301_292 := n9_
                        clear n0_ n1_ n2_ n3_ n4_ n5_ n6_ n7_ n8_ n9_
                        clear hb hbox hg
                        refine hK.out _ _ ⟨(blk_cell BK291.out 0).trans rfl, (blk_cell BK291.out 1).trans rfl, ((HB.out.cell (World.block_lt_of_cell? w _ hw295_0)).trans hw295_0)⟩ (fun hHeld => ?_)
                        clear hK K
                        refine norm_ (a' := ?_) ?_ ?_
                        rotate_left
                        · show Act.put _ (some 8) _ = _
                          simp only [Act.put, List.setIfInBounds_toArray, List.set_cons_zero, List.set_cons_succ, i64_w, i32_w]
                          rfl
                        refine one_ (i := 6) (N := some 46) #[true, true, true, true, true, true, true, false, false, false, true, false, false] rfl rfl (one_of HT_.out (by kernel_rfl)) (by decide) (fun K hK => ?_)
                        refine goes_ Tryd.func43 (by kernel_rfl) rfl #[.agg #[.int .i64 a0_0, .slice A0_1 l0_1.length c0_1], .int .i64 ji29, .int .i64 (rd l1 (ji29))] (by rfl) rfl rfl (by (try simp only [List.map_toArray, List.map_cons, List.map_nil]); first | done | (simp only [hji29]; rfl) | rfl | (simp only [List.length_drop, List.length_take]; rfl)) ?_
                        with_reducible refine (linear_Substitute.calls kj3 a0_0 _ _ l0_1 ji29 (rd l1 (ji29)) t296 t297 t300 _ ?side1 ?side2 A32.out).mono ?_
                        (case side1 => repeat (first | exact (Kd.C_below HR0_1.out HB.out) | (with_reducible refine Kd.C_alloc ?_ _) | (with_reducible refine Kd.C_drewN ?_ _) | (with_reducible refine Kd.C_drew ?_)))
                        (case side2 => exact HC0_1.out)
                        rintro e w63 ⟨v298, rfl, ho0, hb⟩
                        refine ⟨_, rfl, ?_⟩
                        have n0_ := Aside0.mk (Kd.S_lower ho0 (below_size (by repeat (first | (with_reducible first | exact HB.out | apply below_alloc | apply pw_below_drewN | apply below_drew1 | refine below_set ?_ GE291.out | refine below_set ?_ GE292.out | refine below_set ?_ GE301.out) | exact HB.out))))
                        have n1_ := Aside0.mk (blk_below (g := gb291) (o := .cells #[.int .i64 a0_0, .slice A0_1 l0_1.length c0_1] 24 (0, 0)) (by (with_reducible repeat (first | refine blk_drewN ?_ _ | refine blk_drew ?_ | refine blk_alloc ?_ _)); exact BK291.out) hb)
                        have n2_ := Aside0.mk (blk_below (g := gb292) (o := .cells #[.int .i64 a2_0, .int .i64 a2_1] 55 (0, 0)) (by (with_reducible repeat (first | refine blk_drewN ?_ _ | refine blk_drew ?_ | refine blk_alloc ?_ _)); exact BK292.out) hb)
                        have n3_ := Aside0.mk (blk_below (g := gb301) (o := .cells #[.int .i64 0, .slice none 0 0] 24 (0, 0)) (by (with_reducible repeat (first | refine blk_drewN ?_ _ | refine blk_drew ?_ | refine blk_alloc ?_ _)); exact BK301.out) hb)
                        have n4_ := Aside0.mk (below_step (by repeat (first | (with_reducible first | exact HB.out | apply below_alloc | apply pw_below_drewN | apply below_drew1 | refine below_set ?_ GE291.out | refine below_set ?_ GE292.out | refine below_set ?_ GE301.out) | exact HB.out)) hb)
                        clear BK291
                        clear BK292
                        clear BK301
                        clear HB
                        have HO299 := n0_
                        have BK291 := n1_
                        have BK292 := n2_
                        have BK301 := n3_
                        have HB := n4_
                        clear n0_ n1_ n2_ n3_ n4_
                        (try clear hb)
                        (try clear hb2)
                        (try clear hk)
                        (try clear hi)
                        (try clear ho0)
                        refine hK.out _ _ ⟨(blk_cell BK291.out 0).trans rfl, (blk_cell BK291.out 1).trans rfl, ((HB.out.cell (World.block_lt_of_cell? w _ hw295_0)).trans hw295_0)⟩ (fun hHeld => ?_)
                        clear hK K
                        refine norm_ (a' := ?_) ?_ ?_
                        rotate_left
                        · show Act.put _ (some 46) _ = _
                          simp only [Act.put, List.setIfInBounds_toArray, List.set_cons_zero, List.set_cons_succ, i64_w, i32_w]
                          rfl
                        refine pure_ (i := 7) (N := some 39) (v := ?_) (a' := ?_) #[true, true, true, true, true, true, true, true, false, false, true, false, false] rfl rfl (any_of HT_.out (by kernel_rfl)) (fun _ _ _ h => h) (Or.inl ⟨by rfl, ?_⟩) ?_ ?_
                        rotate_left
                        · intro w'
                          go_simp
                          with_reducible rfl
                        rotate_left
                        · simp only [Act.put, List.setIfInBounds_toArray, List.set_cons_zero, List.set_cons_succ, i64_w, i32_w]
                          rfl
                        refine pure_ (i := 8) (N := some 47) (v := ?_) (a' := ?_) #[true, true, true, true, true, true, true, true, true, false, true, false, false] rfl rfl (any_of HT_.out (by kernel_rfl)) (fun _ _ _ h => h) (Or.inl ⟨by rfl, ?_⟩) ?_ ?_
                        rotate_left
                        · intro w'
                          go_simp
                          with_reducible rfl
                        rotate_left
                        · simp only [Act.put, List.setIfInBounds_toArray, List.set_cons_zero, List.set_cons_succ, i64_w, i32_w]
                          rfl
                        refine pure_ (i := 9) (N := some 48) (v := ?_) (a' := ?_) #[true, true, true, true, true, true, true, true, true, true, true, false, false] rfl rfl (any_of HT_.out (by kernel_rfl)) (fun _ _ _ h => h) (Or.inl ⟨by rfl, ?_⟩) ?_ ?_
                        rotate_left
                        · intro w'
                          go_simp
                          with_reducible rfl
                        rotate_left
                        · simp only [Act.put, List.setIfInBounds_toArray, List.set_cons_zero, List.set_cons_succ, i64_w, i32_w]
                          rfl
                        exact norm_ (by simp only [putAll, Act.put, List.setIfInBounds_toArray, List.set_cons_zero, List.set_cons_succ]) (hCont (v298, gb301) _ ⟨hHeld, (by (with_reducible repeat (first | apply Kd.S_alloc | apply Kd.S_drewN | apply Kd.S_drew)); exact HO299.out), (by (with_reducible repeat (first | refine blk_drewN ?_ _ | refine blk_drew ?_ | refine blk_alloc ?_ _)); exact BK291.out), (by (with_reducible repeat (first | refine blk_drewN ?_ _ | refine blk_drew ?_ | refine blk_alloc ?_ _)); exact BK292.out), (by (with_reducible repeat (first | refine blk_drewN ?_ _ | refine blk_drew ?_ | refine blk_alloc ?_ _)); exact BK301.out), GW301.out, GE301.out, NB291_301.out, NB301_291.out, NB292_301.out, NB301_292.out, (by repeat (first | (with_reducible first | exact HB.out | apply below_alloc | apply pw_below_drewN | apply below_drew1 | refine below_set ?_ GE291.out | refine below_set ?_ GE292.out | refine below_set ?_ GE301.out) | exact HB.out))⟩)
                    rintro ⟨v298, gb301⟩ w64 ⟨hS_, h0_, h1_, h2_, h3_, h4_, h5_, h6_, h7_, h8_, h9_, h10_⟩
                    have n0_ : Aside0 (Kd.S k33 33 w64 w.heap.size (fun _ => True) v298 t297) := ⟨h0_⟩
                    have n1_ : Aside0 (w64.heap[gb291]? = some (.cells #[.int .i64 a0_0, .slice A0_1 l0_1.length c0_1] 24 (0, 0))) := ⟨h1_⟩
                    have n2_ : Aside0 (w64.heap[gb292]? = some (.cells #[.int .i64 a2_0, .int .i64 a2_1] 55 (0, 0))) := ⟨h2_⟩
                    have n3_ : Aside0 (w64.heap[gb301]? = some (.cells #[.int .i64 0, .slice none 0 0] 24 (0, 0))) := ⟨h3_⟩
                    have n4_ : Aside0 (w.heap.size ≤ gb301) := ⟨h4_⟩
                    have n5_ : Aside0 (w.heap.size ≤ gb301) := ⟨h5_⟩
                    have n6_ : Aside0 (gb291 ≠ gb301) := ⟨h6_⟩
                    have n7_ : Aside0 (gb301 ≠ gb291) := ⟨h7_⟩
                    have n8_ : Aside0 (gb292 ≠ gb301) := ⟨h8_⟩
                    have n9_ : Aside0 (gb301 ≠ gb292) := ⟨h9_⟩
                    have n10_ : Aside0 (Below w.heap.size w w64) := ⟨h10_⟩
                    clear BK291
                    clear BK292
                    clear HB
                    clear h0_ h1_ h2_ h3_ h4_ h5_ h6_ h7_ h8_ h9_ h10_
                    have HO299 := n0_
                    have BK291 := n1_
                    have BK292 := n2_
                    have BK301 := n3_
                    have GW301 := n4_
                    have GE301 := n5_
                    have NB291_301 := n6_
                    have NB301_291 := n7_
                    have NB292_301 := n8_
                    have NB301_292 := n9_
                    have HB := n10_
                    clear n0_ n1_ n2_ n3_ n4_ n5_ n6_ n7_ n8_ n9_ n10_
                    have hHeld : w64.cell? ⟨gb291, 0, none⟩ = some (.int .i64 a0_0) ∧ w64.cell? ⟨gb291, 1, none⟩ = some (.slice A0_1 l0_1.length c0_1) ∧ w64.cell? (ad295.add ((ji29)).toNat) = some (.int .i64 (rd l1 (ji29))) := hS_
                    obtain ⟨Ao66, co66, eo66⟩ := Kd.S_slice HO299.out
                    (first | subst eo66 | (injection eo66 with f1_ f2_ f3_; have f4_ := f1_.symm; have f5_ := f3_.symm; clear f1_ f2_ f3_; subst f4_; subst f5_))
                    refine norm_ (a' := ?_) ?_ ?_
                    rotate_left
                    · simp only [putAll, Act.put, List.setIfInBounds_toArray, List.set_cons_zero, List.set_cons_succ]
                      rfl
                    refine one_ (i := 11) (N := none) #[true, true, true, true, true, true, true, true, true, true, true, true, false] rfl rfl (one_of HT_.out (by kernel_rfl)) (by decide) (fun K hK => ?_)
                    have hs65 : w64.cell? ⟨gb301, 0, none⟩ = some (.int .i64 0) := (blk_cell BK301.out 0).trans rfl
                    have hfs65 := blk_frozen BK301.out 0
                    have hns65_0 := NB291_301.out
                    have hns65_1 := NB292_301.out
                    have hms65_0 := NB301_291.out
                    have hms65_1 := NB301_292.out
                    have hs67 : w64.cell? ⟨gb301, 1, none⟩ = some (.slice none 0 0) := (blk_cell BK301.out 1).trans rfl
                    have hfs67 := blk_frozen BK301.out 1
                    have hns67_0 := NB291_301.out
                    have hns67_1 := NB292_301.out
                    have hms67_0 := NB301_291.out
                    have hms67_1 := NB301_292.out
                    refine skip_ (w1 := ?_) (by rfl) rfl ?_ ?_
                    rotate_left
                    · go_simp
                      rfl
                    refine hK.out _ _ ⟨((cell_far (p := ⟨gb301, _, none⟩) NB291_301.out _).trans (((cell_far (p := ⟨gb301, _, none⟩) NB291_301.out _).trans (hHeld.1)))), ((cell_far (p := ⟨gb301, _, none⟩) NB291_301.out _).trans (((cell_far (p := ⟨gb301, _, none⟩) NB291_301.out _).trans (hHeld.2.1)))), ((cell_far (p := ⟨gb301, _, none⟩) (by first | exact Nat.ne_of_lt (Nat.lt_of_lt_of_le (by have := World.block_lt_of_cell? _ _ hw295_0; first | rwa [add_block] at this | exact this) GW301.out) | (rw [add_block]; exact Nat.ne_of_lt (Nat.lt_of_lt_of_le (by have := World.block_lt_of_cell? _ _ hw295_0; first | rwa [add_block] at this | exact this) GW301.out)) | (show (Addr.add _ _).block ≠ _; rw [add_block]; exact Nat.ne_of_lt (Nat.lt_of_lt_of_le (by have := World.block_lt_of_cell? _ _ hw295_0; first | rwa [add_block] at this | exact this) GW301.out)) | (dsimp only; exact Nat.ne_of_lt (Nat.lt_of_lt_of_le (by have := World.block_lt_of_cell? _ _ hw295_0; first | rwa [add_block] at this | exact this) GW301.out))) _).trans (((cell_far (p := ⟨gb301, _, none⟩) (by first | exact Nat.ne_of_lt (Nat.lt_of_lt_of_le (by have := World.block_lt_of_cell? _ _ hw295_0; first | rwa [add_block] at this | exact this) GW301.out) | (rw [add_block]; exact Nat.ne_of_lt (Nat.lt_of_lt_of_le (by have := World.block_lt_of_cell? _ _ hw295_0; first | rwa [add_block] at this | exact this) GW301.out)) | (show (Addr.add _ _).block ≠ _; rw [add_block]; exact Nat.ne_of_lt (Nat.lt_of_lt_of_le (by have := World.block_lt_of_cell? _ _ hw295_0; first | rwa [add_block] at this | exact this) GW301.out)) | (dsimp only; exact Nat.ne_of_lt (Nat.lt_of_lt_of_le (by have := World.block_lt_of_cell? _ _ hw295_0; first | rwa [add_block] at this | exact this) GW301.out))) _).trans (hHeld.2.2))))⟩ (fun hHeld => ?_)
                    clear hK K
                    refine pure_ (i := 12) (N := some 9) (v := ?_) (a' := ?_) #[true, true, true, true, true, true, true, true, true, true, true, true, true] rfl rfl (any_of HT_.out (by kernel_rfl)) (fun _ _ _ h => h) (Or.inl ⟨by rfl, ?_⟩) ?_ ?_
                    rotate_left
                    · intro w'
                      go_simp
                      with_reducible rfl
                    rotate_left
                    · simp only [Act.put, List.setIfInBounds_toArray, List.set_cons_zero, List.set_cons_succ, i64_w, i32_w]
                      rfl
                    refine done_ (done_of HT_.out (by kernel_rfl)) ?_
                    try go_wp2_with (first | ((with_reducible refine gate_callee (f := 45) rfl ?_); refine goesL_ (some 53) rfl rfl Tryd.func45 (by kernel_rfl) rfl #[.slice (some ad295) l1.length c1] rfl (by (try simp only [List.map_toArray, List.map_cons, List.map_nil]); first | done | rfl | (simp only [List.length_drop, List.length_take]; rfl)) ?_; (with_reducible refine (familycheckref01_CopyInts.calls _ _ l1 t303 _ ?side1 ?side2 A34.out).mono ?_); (case side1 => exact Kd.C_below HR1.out (by repeat (first | (with_reducible first | exact HB.out | apply below_alloc | apply pw_below_drewN | apply below_drew1 | refine below_set ?_ GE291.out | refine below_set ?_ GE292.out | refine below_set ?_ GE301.out) | exact HB.out))); (case side2 => exact HC1.out); rintro e w68 ⟨v304, rfl, ho0, hb⟩; refine ⟨_, rfl, ?_⟩; have n0_ := Aside0.mk (Kd.S_elder' (by (with_reducible repeat (first | apply Kd.S_alloc | apply Kd.S_drewN | apply Kd.S_drew)); exact (Kd.S_mono (Kd.S_far (p := ⟨gb301, 1, none⟩) (Kd.S_far (p := ⟨gb301, 0, none⟩) (Kd.S_types HO299.out BK301.out (by decide)) (fun _ hk => hk.2) (.int .i64 t296)) (fun _ hk => hk.2) (.slice Ao66 t297.length co66)) (fun _ h_ => h_.1))) (Kd.R_base ho0) hb); have n1_ := Aside0.mk (Kd.R_lower ho0 (below_size (by repeat (first | (with_reducible first | exact HB.out | apply below_alloc | apply pw_below_drewN | apply below_drew1 | refine below_set ?_ GE291.out | refine below_set ?_ GE292.out | refine below_set ?_ GE301.out) | exact HB.out)))); have n2_ := Aside0.mk (blk_below (g := gb291) (o := .cells #[.int .i64 a0_0, .slice A0_1 l0_1.length c0_1] 24 (0, 0)) (by (with_reducible repeat (first | refine blk_drewN ?_ _ | refine blk_drew ?_ | refine blk_alloc ?_ _)); refine blk_far ?_ NB291_301.out _; (with_reducible repeat (first | refine blk_drewN ?_ _ | refine blk_drew ?_ | refine blk_alloc ?_ _)); refine blk_far ?_ NB291_301.out _; (with_reducible repeat (first | refine blk_drewN ?_ _ | refine blk_drew ?_ | refine blk_alloc ?_ _)); exact BK291.out) hb); have n3_ := Aside0.mk (blk_below (g := gb292) (o := .cells #[.int .i64 a2_0, .int .i64 a2_1] 55 (0, 0)) (by (with_reducible repeat (first | refine blk_drewN ?_ _ | refine blk_drew ?_ | refine blk_alloc ?_ _)); refine blk_far ?_ NB292_301.out _; (with_reducible repeat (first | refine blk_drewN ?_ _ | refine blk_drew ?_ | refine blk_alloc ?_ _)); refine blk_far ?_ NB292_301.out _; (with_reducible repeat (first | refine blk_drewN ?_ _ | refine blk_drew ?_ | refine blk_alloc ?_ _)); exact BK292.out) hb); have n4_ := Aside0.mk (blk_below (g := gb301) (o := .cells #[.int .i64 t296, .slice Ao66 t297.length co66] 24 (0, 0)) (by (with_reducible repeat (first | refine blk_drewN ?_ _ | refine blk_drew ?_ | refine blk_alloc ?_ _)); refine blk_put (cs := #[.int .i64 t296, .slice none 0 0]) ?_ 1 _ rfl; (with_reducible repeat (first | refine blk_drewN ?_ _ | refine blk_drew ?_ | refine blk_alloc ?_ _)); refine blk_put (cs := #[.int .i64 0, .slice none 0 0]) ?_ 0 _ rfl; (with_reducible repeat (first | refine blk_drewN ?_ _ | refine blk_drew ?_ | refine blk_alloc ?_ _)); exact BK301.out) hb); have n5_ := Aside0.mk (below_step (by repeat (first | (with_reducible first | exact HB.out | apply below_alloc | apply pw_below_drewN | apply below_drew1 | refine below_set ?_ GE291.out | refine below_set ?_ GE292.out | refine below_set ?_ GE301.out) | exact HB.out)) hb); clear HO299; clear BK291; clear BK292; clear BK301; clear HB; have HO299 := n0_; have HO305 := n1_; have BK291 := n2_; have BK292 := n3_; have BK301 := n4_; have HB := n5_; clear n0_ n1_ n2_ n3_ n4_ n5_; (try clear hb); (try clear hb2); (try clear hk); (try clear hi); (try clear ho0); have hnb69 := NB292_301.out; have hnc69 := NB301_292.out; have hcz70_0 : w68.cell? ⟨gb292, 0, none⟩ = some (.int .i64 a2_0) := (blk_cell BK292.out 0).trans rfl; have hcz70_1 : w68.cell? ⟨gb292, 1, none⟩ = some (.int .i64 a2_1) := (blk_cell BK292.out 1).trans rfl; have hfz70_0 := blk_frozen BK292.out 0; have hfz70_1 := blk_frozen BK292.out 1; have p36 : 0 ≤ ((ji29) : Int) := of_decide_eq_true (by first | (with_reducible assumption) | assumption); have q36 : ((ji29) : Int) < ((t303.length : Int) : Int) := of_decide_eq_true (by first | (with_reducible assumption) | assumption); obtain ⟨go36, co36, eo36, gb36, gl36, cl36, HG36⟩ := Kd.R_form HO305.out (by omega); (first | cases eo36 | (injection eo36 with ea_ en_ ec_; (first | subst ea_ | (injection ea_ with ea_; subst ea_)); subst ec_; clear en_)); have GB36 := Aside0.mk gb36; have GG36 := Aside0.mk HG36; clear gb36 gl36 HG36; obtain ⟨hx36_0, hf36_0⟩ := Kd.R_celln 0 HO305.out ((ji29) : Int) p36 q36; replace p36 := eq_true p36; replace q36 := eq_true q36; obtain ⟨hy71_, hz71_⟩ := Kd.R_celln 0 HO305.out ((ji29) : Int) (of_decide_eq_true (by first | (with_reducible assumption) | assumption)) (of_decide_eq_true (by first | (with_reducible assumption) | assumption)); have HP71 := Kd.R_putg HO305.out ((ji29) : Int) (Go.bits .and .i64 a2_1 1048575)) | ((with_reducible refine gate_store (t := 3) (p := 59) rfl ?_); refine store_event (t := 3) (p := 59) (v := ?vo_w72) (w1 := (w68.setCell ⟨go36, ((ji29) : Int).toNat, none⟩ (.int .i64 (Go.bits .and .i64 a2_1 1048575)))) ?hg ?ho ?hn ?hr ?_; (case ho => rfl); (case hg => rfl); (case hn => rfl); (case hr => first | (go_simp; done) | (go_simp; rfl)); intro w72 hw; have hg : w68.grownBy w72 (some go36) := (by rw [hw]; exact HP71.2); have hp_ : Kd.R (Kd.int .i64) 3 w72 w.heap.size (fun _ => True) (.slice (some ⟨go36, 0, none⟩) t303.length co36) y306 := (by rw [hw, Ny306.out]; exact HP71.1); clear HP71; have n0_ := Aside0.mk (blk_grown (g := gb291) (o := .cells #[.int .i64 a0_0, .slice A0_1 l0_1.length c0_1] 24 (0, 0)) (by (with_reducible repeat (first | refine blk_drewN ?_ _ | refine blk_drew ?_ | refine blk_alloc ?_ _)); exact BK291.out) hg (Kd.R_ne HO305.out BK291.out (by decide))); have n1_ := Aside0.mk (blk_grown (g := gb292) (o := .cells #[.int .i64 a2_0, .int .i64 a2_1] 55 (0, 0)) (by (with_reducible repeat (first | refine blk_drewN ?_ _ | refine blk_drew ?_ | refine blk_alloc ?_ _)); exact BK292.out) hg (Kd.R_ne HO305.out BK292.out (by decide))); have n2_ := Aside0.mk (Kd.S_after (v := (.slice (some ⟨go36, 0, none⟩) t303.length co36)) (v1 := (.slice (some ⟨go36, 0, none⟩) t303.length co36)) (ok := (fun _ => True)) (by (with_reducible repeat (first | apply Kd.S_alloc | apply Kd.S_drewN | apply Kd.S_drew)); exact HO299.out) hg (.inl rfl)); have n3_ := Aside0.mk (blk_grown (g := gb301) (o := .cells #[.int .i64 t296, .slice Ao66 t297.length co66] 24 (0, 0)) (by (with_reducible repeat (first | refine blk_drewN ?_ _ | refine blk_drew ?_ | refine blk_alloc ?_ _)); exact BK301.out) hg (Kd.R_ne HO305.out BK301.out (by decide))); have n4_ := Aside0.mk (hp_); have n5_ := Aside0.mk ((by rw [hw]; exact below_set (HB.out) GB36.out : Below w.heap.size w w72)); clear BK291; clear BK292; clear HO299; clear BK301; clear HO305; clear HB; have BK291 := n0_; have BK292 := n1_; have HO299 := n2_; have BK301 := n3_; have HO305 := n4_; have HB := n5_; clear n0_ n1_ n2_ n3_ n4_ n5_; clear hg hw hp_))
                    have n0_ := Aside0.mk (Kd.S_drew HO299.out)
                    have n1_ := Aside0.mk (Kd.R_drew HO305.out)
                    have n2_ := Aside0.mk (blk_drew BK291.out)
                    have n3_ := Aside0.mk (blk_drew BK292.out)
                    have n4_ := Aside0.mk (blk_drew BK301.out)
                    have n5_ := Aside0.mk (below_drew1 HB.out)
                    clear HO299
                    clear HO305
                    clear BK291
                    clear BK292
                    clear BK301
                    clear HB
                    have HO299 := n0_
                    have HO305 := n1_
                    have BK291 := n2_
                    have BK292 := n3_
                    have BK301 := n4_
                    have HB := n5_
                    clear n0_ n1_ n2_ n3_ n4_ n5_
                    refine start_ (n := 11) (S := fun w' => w'.cell? ⟨gb291, 0, none⟩ = some (.int .i64 a0_0) ∧ w'.cell? ⟨gb291, 1, none⟩ = some (.slice A0_1 l0_1.length c0_1) ∧ w'.cell? ⟨gb301, 0, none⟩ = some (.int .i64 t296) ∧ w'.cell? ⟨gb301, 1, none⟩ = some (.slice Ao66 t297.length co66)) (ds := []) #[false, false, false, false, false, false, false, false, false, false, false] (by kernel_rfl) rfl rfl ⟨(blk_cell BK291.out 0).trans rfl, (blk_cell BK291.out 1).trans rfl, (blk_cell BK301.out 0).trans rfl, (blk_cell BK301.out 1).trans rfl⟩ (fun hHeld => ?_); refine with_tabW familychecklaw01_LinearSubstituteMeans.tab9 familychecklaw01_LinearSubstituteMeans.bits9 (fun HT_ HW_ => ?_)
                    generalize w72.drew = w73 at HO299 HO305 BK291 BK292 BK301 HB hHeld ⊢
                    refine pure_ (i := 1) (N := some 61) (v := ?_) (a' := ?_) #[false, true, false, false, false, false, false, false, false, false, false] rfl rfl (any_of HT_.out (by kernel_rfl)) (fun _ _ _ h => h) (Or.inl ⟨by rfl, ?_⟩) ?_ ?_
                    rotate_left
                    · intro w'
                      go_simp
                      with_reducible rfl
                    rotate_left
                    · simp only [Act.put, List.setIfInBounds_toArray, List.set_cons_zero, List.set_cons_succ, i64_w, i32_w]
                      rfl
                    refine pure_ (i := 4) (N := some 64) (v := ?_) (a' := ?_) #[false, true, false, false, true, false, false, false, false, false, false] rfl rfl (any_of HT_.out (by kernel_rfl)) (fun _ _ _ h => h) (Or.inl ⟨by rfl, ?_⟩) ?_ ?_
                    rotate_left
                    · intro w'
                      go_simp
                      with_reducible rfl
                    rotate_left
                    · simp only [Act.put, List.setIfInBounds_toArray, List.set_cons_zero, List.set_cons_succ, i64_w, i32_w]
                      rfl
                    refine take_ (i := 0) (N := some 60) (v := ?_) (a' := ?_) #[true, true, false, false, true, false, false, false, false, false, false] rfl rfl (take_ofW HT_.out HW_.out (by kernel_rfl)) (fun _ _ _ h => h) (Or.inl ⟨by rfl, ?_⟩) hHeld ?_ ?_
                    rotate_left
                    · rintro w' ⟨s0, s1, s2, s3⟩
                      go_simp
                      with_reducible rfl
                    rotate_left
                    · simp only [Act.put, List.setIfInBounds_toArray, List.set_cons_zero, List.set_cons_succ, i64_w, i32_w]
                      rfl
                    refine take_ (i := 3) (N := some 63) (v := ?_) (a' := ?_) #[true, true, false, true, true, false, false, false, false, false, false] rfl rfl (take_ofW HT_.out HW_.out (by kernel_rfl)) (fun _ _ _ h => h) (Or.inl ⟨by rfl, ?_⟩) hHeld ?_ ?_
                    rotate_left
                    · rintro w' ⟨s0, s1, s2, s3⟩
                      go_simp
                      with_reducible rfl
                    rotate_left
                    · simp only [Act.put, List.setIfInBounds_toArray, List.set_cons_zero, List.set_cons_succ, i64_w, i32_w]
                      rfl
                    refine one_ (i := 2) (N := some 62) #[true, true, true, true, true, false, false, false, false, false, false] rfl rfl (one_of HT_.out (by kernel_rfl)) (by decide) (fun K hK => ?_)
                    refine goes_ Tryd.func24 (by kernel_rfl) rfl #[.agg #[.int .i64 a0_0, .slice A0_1 l0_1.length c0_1], .slice (some ad295) l1.length c1] (by rfl) rfl rfl (by (try simp only [List.map_toArray, List.map_cons, List.map_nil]); first | done | rfl | (simp only [List.length_drop, List.length_take]; rfl)) ?_
                    with_reducible refine (linear_Satisfies.calls kj3 a0_0 _ _ l0_1 _ _ l1 t307 _ ?side1 ?side2 ?side3 ?side4 A37.out).mono ?_
                    (case side1 => repeat (first | exact (Kd.C_below HR0_1.out HB.out) | (with_reducible refine Kd.C_alloc ?_ _) | (with_reducible refine Kd.C_drewN ?_ _) | (with_reducible refine Kd.C_drew ?_)))
                    (case side2 => exact HC0_1.out)
                    (case side3 => repeat (first | exact (Kd.C_below HR1.out HB.out) | (with_reducible refine Kd.C_alloc ?_ _) | (with_reducible refine Kd.C_drewN ?_ _) | (with_reducible refine Kd.C_drew ?_)))
                    (case side4 => exact HC1.out)
                    rintro e w74 ⟨rfl, hb⟩
                    refine ⟨_, rfl, ?_⟩
                    have n0_ := Aside0.mk (Kd.S_below (by (with_reducible repeat (first | apply Kd.S_alloc | apply Kd.S_drewN | apply Kd.S_drew)); exact HO299.out) hb)
                    have n1_ := Aside0.mk (Kd.R_below (by (with_reducible repeat (first | apply Kd.R_alloc | apply Kd.R_drewN | apply Kd.R_drew)); exact HO305.out) hb)
                    have n2_ := Aside0.mk (blk_below (g := gb291) (o := .cells #[.int .i64 a0_0, .slice A0_1 l0_1.length c0_1] 24 (0, 0)) (by (with_reducible repeat (first | refine blk_drewN ?_ _ | refine blk_drew ?_ | refine blk_alloc ?_ _)); exact BK291.out) hb)
                    have n3_ := Aside0.mk (blk_below (g := gb292) (o := .cells #[.int .i64 a2_0, .int .i64 a2_1] 55 (0, 0)) (by (with_reducible repeat (first | refine blk_drewN ?_ _ | refine blk_drew ?_ | refine blk_alloc ?_ _)); exact BK292.out) hb)
                    have n4_ := Aside0.mk (blk_below (g := gb301) (o := .cells #[.int .i64 t296, .slice Ao66 t297.length co66] 24 (0, 0)) (by (with_reducible repeat (first | refine blk_drewN ?_ _ | refine blk_drew ?_ | refine blk_alloc ?_ _)); exact BK301.out) hb)
                    have n5_ := Aside0.mk (below_step (by repeat (first | (with_reducible first | exact HB.out | apply below_alloc | apply pw_below_drewN | apply below_drew1 | refine below_set ?_ GE291.out | refine below_set ?_ GE292.out | refine below_set ?_ GE301.out) | exact HB.out)) hb)
                    clear HO299
                    clear HO305
                    clear BK291
                    clear BK292
                    clear BK301
                    clear HB
                    have HO299 := n0_
                    have HO305 := n1_
                    have BK291 := n2_
                    have BK292 := n3_
                    have BK301 := n4_
                    have HB := n5_
                    clear n0_ n1_ n2_ n3_ n4_ n5_
                    (try clear hb)
                    (try clear hb2)
                    (try clear hk)
                    (try clear hi)
                    refine hK.out _ _ ⟨(blk_cell BK291.out 0).trans rfl, (blk_cell BK291.out 1).trans rfl, (blk_cell BK301.out 0).trans rfl, (blk_cell BK301.out 1).trans rfl⟩ (fun hHeld => ?_)
                    clear hK K
                    refine norm_ (a' := ?_) ?_ ?_
                    rotate_left
                    · show Act.put _ (some 62) _ = _
                      simp only [Act.put, List.setIfInBounds_toArray, List.set_cons_zero, List.set_cons_succ, i64_w, i32_w]
                      rfl
                    refine one_ (i := 5) (N := some 65) #[true, true, true, true, true, true, false, false, false, false, false] rfl rfl (one_of HT_.out (by kernel_rfl)) (by decide) (fun K hK => ?_)
                    refine goes_ Tryd.func24 (by kernel_rfl) rfl #[.agg #[.int .i64 t296, .slice Ao66 t297.length co66], .slice (some ⟨go36, 0, none⟩) y306.length co36] (by rfl) rfl rfl (by (try simp only [List.map_toArray, List.map_cons, List.map_nil]); first | done | (rw [show y306.length = t303.length from (Kd.R_reads' HO305.out).1.symm] <;> rfl) | rfl | (simp only [List.length_drop, List.length_take]; rfl)) ?_
                    with_reducible refine (linear_Satisfies.calls kj3 t296 _ _ t297 _ _ y306 t308 _ ?side1 ?side2 ?side3 ?side4 A38.out).mono ?_
                    (case side1 => repeat (first | exact (Kd.S_reads' HO299.out).2.2 | (with_reducible refine Kd.C_alloc ?_ _) | (with_reducible refine Kd.C_drewN ?_ _) | (with_reducible refine Kd.C_drew ?_)))
                    (case side2 => exact (Kd.S_reads' HO299.out).2.1)
                    (case side3 => repeat (first | exact (Kd.R_reads' HO305.out).2.2 | (with_reducible refine Kd.C_alloc ?_ _) | (with_reducible refine Kd.C_drewN ?_ _) | (with_reducible refine Kd.C_drew ?_)))
                    (case side4 => rw [show y306.length = t303.length from (Kd.R_reads' HO305.out).1.symm]; exact (Kd.R_reads' HO305.out).2.1)
                    rintro e w75 ⟨rfl, hb⟩
                    refine ⟨_, rfl, ?_⟩
                    have n0_ := Aside0.mk (Kd.S_below (by (with_reducible repeat (first | apply Kd.S_alloc | apply Kd.S_drewN | apply Kd.S_drew)); exact HO299.out) hb)
                    have n1_ := Aside0.mk (Kd.R_below (by (with_reducible repeat (first | apply Kd.R_alloc | apply Kd.R_drewN | apply Kd.R_drew)); exact HO305.out) hb)
                    have n2_ := Aside0.mk (blk_below (g := gb291) (o := .cells #[.int .i64 a0_0, .slice A0_1 l0_1.length c0_1] 24 (0, 0)) (by (with_reducible repeat (first | refine blk_drewN ?_ _ | refine blk_drew ?_ | refine blk_alloc ?_ _)); exact BK291.out) hb)
                    have n3_ := Aside0.mk (blk_below (g := gb292) (o := .cells #[.int .i64 a2_0, .int .i64 a2_1] 55 (0, 0)) (by (with_reducible repeat (first | refine blk_drewN ?_ _ | refine blk_drew ?_ | refine blk_alloc ?_ _)); exact BK292.out) hb)
                    have n4_ := Aside0.mk (blk_below (g := gb301) (o := .cells #[.int .i64 t296, .slice Ao66 t297.length co66] 24 (0, 0)) (by (with_reducible repeat (first | refine blk_drewN ?_ _ | refine blk_drew ?_ | refine blk_alloc ?_ _)); exact BK301.out) hb)
                    have n5_ := Aside0.mk (below_step (by repeat (first | (with_reducible first | exact HB.out | apply below_alloc | apply pw_below_drewN | apply below_drew1 | refine below_set ?_ GE291.out | refine below_set ?_ GE292.out | refine below_set ?_ GE301.out) | exact HB.out)) hb)
                    clear HO299
                    clear HO305
                    clear BK291
                    clear BK292
                    clear BK301
                    clear HB
                    have HO299 := n0_
                    have HO305 := n1_
                    have BK291 := n2_
                    have BK292 := n3_
                    have BK301 := n4_
                    have HB := n5_
                    clear n0_ n1_ n2_ n3_ n4_ n5_
                    (try clear hb)
                    (try clear hb2)
                    (try clear hk)
                    (try clear hi)
                    refine hK.out _ _ ⟨(blk_cell BK291.out 0).trans rfl, (blk_cell BK291.out 1).trans rfl, (blk_cell BK301.out 0).trans rfl, (blk_cell BK301.out 1).trans rfl⟩ (fun hHeld => ?_)
                    clear hK K
                    refine norm_ (a' := ?_) ?_ ?_
                    rotate_left
                    · show Act.put _ (some 65) _ = _
                      simp only [Act.put, List.setIfInBounds_toArray, List.set_cons_zero, List.set_cons_succ, i64_w, i32_w]
                      rfl
                    refine pure_ (i := 6) (N := some 66) (v := ?_) (a' := ?_) #[true, true, true, true, true, true, true, false, false, false, false] rfl rfl (any_of HT_.out (by kernel_rfl)) (fun _ _ _ h => h) (Or.inl ⟨by rfl, ?_⟩) ?_ ?_
                    rotate_left
                    · intro w'
                      go_simp
                      with_reducible rfl
                    rotate_left
                    · simp only [Act.put, List.setIfInBounds_toArray, List.set_cons_zero, List.set_cons_succ, i64_w, i32_w]
                      rfl
                    refine pure_ (i := 7) (N := some 67) (v := ?_) (a' := ?_) #[true, true, true, true, true, true, true, true, false, false, false] rfl rfl (any_of HT_.out (by kernel_rfl)) (fun _ _ _ h => h) (Or.inl ⟨by rfl, ?_⟩) ?_ ?_
                    rotate_left
                    · intro w'
                      go_simp
                      with_reducible rfl
                    rotate_left
                    · simp only [Act.put, List.setIfInBounds_toArray, List.set_cons_zero, List.set_cons_succ, i64_w, i32_w]
                      rfl
                    refine pure_ (i := 8) (N := some 68) (v := undef) (a' := ?_) #[true, true, true, true, true, true, true, true, true, false, false] rfl rfl (any_of HT_.out (by kernel_rfl)) (fun _ _ _ h => h) (Or.inr ⟨by rfl, rfl⟩) ?_ ?_
                    rotate_left
                    · simp only [Act.put, List.setIfInBounds_toArray, List.set_cons_zero, List.set_cons_succ, i64_w, i32_w]
                      rfl
                    refine pure_ (i := 9) (N := some 69) (v := ?_) (a' := ?_) #[true, true, true, true, true, true, true, true, true, true, false] rfl rfl (any_of HT_.out (by kernel_rfl)) (fun _ _ _ h => h) (Or.inl ⟨by rfl, ?_⟩) ?_ ?_
                    rotate_left
                    · intro w'
                      go_simp
                      with_reducible rfl
                    rotate_left
                    · simp only [Act.put, List.setIfInBounds_toArray, List.set_cons_zero, List.set_cons_succ, i64_w, i32_w]
                      rfl
                    refine pure_ (i := 10) (N := some 6) (v := ?_) (a' := ?_) #[true, true, true, true, true, true, true, true, true, true, true] rfl rfl (any_of HT_.out (by kernel_rfl)) (fun _ _ _ h => h) (Or.inl ⟨by rfl, ?_⟩) ?_ ?_
                    rotate_left
                    · intro w'
                      go_simp
                      with_reducible rfl
                    rotate_left
                    · simp only [Act.put, List.setIfInBounds_toArray, List.set_cons_zero, List.set_cons_succ, i64_w, i32_w]
                      rfl
                    refine done_ (done_of HT_.out (by kernel_rfl)) ?_
                    try go_wp2
                    go_ret
                    exact ⟨by first | rfl | (simp [errW_none, errW_some] <;> rfl) | (simp only [← hji29]; first | rfl | (simp [errW_none, errW_some] <;> rfl)) | (simp [*, errW_none, errW_some] <;> rfl), by repeat (first | (with_reducible first | exact HB.out | apply below_alloc | apply pw_below_drewN | apply below_drew1 | refine below_set ?_ GE291.out | refine below_set ?_ GE292.out | refine below_set ?_ GE301.out) | exact HB.out)⟩
                · rw [if_neg c35] at H
                  exact absurd H (by simp)
              · rw [if_neg c33] at H
                have c33b0 : (t300 == 0) = false := beq_eq_false_iff_ne.mpr c33
                have c33b1 : (t300 != 0) = true := bne_iff_ne.mpr c33
                replace H := Option.bind_eq_some_iff.mp H
                obtain ⟨t302, A760, H⟩ := H
                replace H : (some t302) = some r := H
                have A76 := Aside0.mk A760
                clear A760
                obtain rfl := Option.some.inj H
                have hnb77 := NB292_291.out
                have hnc77 := NB291_292.out
                have hcz78_0 : wc.cell? ⟨gb292, 0, none⟩ = some (.int .i64 a2_0) := (blk_cell BK292.out 0).trans rfl
                have hcz78_1 : wc.cell? ⟨gb292, 1, none⟩ = some (.int .i64 a2_1) := (blk_cell BK292.out 1).trans rfl
                have hfz78_0 := blk_frozen BK292.out 0
                have hfz78_1 := blk_frozen BK292.out 1
                try go_wp2
                have n0_ := Aside0.mk (blk_drew BK291.out)
                have n1_ := Aside0.mk (blk_drew BK292.out)
                have n2_ := Aside0.mk (below_drew1 HB.out)
                clear BK291
                clear BK292
                clear HB
                have BK291 := n0_
                have BK292 := n1_
                have HB := n2_
                clear n0_ n1_ n2_
                have p295 : 0 ≤ ((ji29) : Int) := of_decide_eq_true (by first | (with_reducible assumption) | assumption)
                have q295 : (ji29) < (l1.length : Int) := of_decide_eq_true (by first | (with_reducible assumption) | assumption)
                obtain ⟨ad295, e295, hx295_0⟩ := Kd.at_int HR1.out (ji29) p295 q295
                have hw295_0 := hx295_0
                cases e295
                replace hx295_0 := (HB.out.cell (World.block_lt_of_cell? w _ hx295_0)).trans hx295_0
                replace p295 := eq_true p295
                replace q295 := eq_true q295
                refine start_ (n := 13) (S := fun w' => w'.cell? ⟨gb291, 0, none⟩ = some (.int .i64 a0_0) ∧ w'.cell? ⟨gb291, 1, none⟩ = some (.slice A0_1 l0_1.length c0_1) ∧ w'.cell? (ad295.add ((ji29)).toNat) = some (.int .i64 (rd l1 (ji29)))) (ds := []) #[false, false, false, false, false, false, false, false, false, false, false, false, false] (by kernel_rfl) rfl rfl ⟨(blk_cell BK291.out 0).trans rfl, (blk_cell BK291.out 1).trans rfl, ((HB.out.cell (World.block_lt_of_cell? w _ hw295_0)).trans hw295_0)⟩ (fun hHeld => ?_); refine with_tabW familychecklaw01_LinearSubstituteMeans.tab4 familychecklaw01_LinearSubstituteMeans.bits4 (fun HT_ HW_ => ?_)
                generalize wc.drew = w79 at BK291 BK292 HB hx295_0 hHeld ⊢
                refine pure_ (i := 1) (N := some 41) (v := ?_) (a' := ?_) #[false, true, false, false, false, false, false, false, false, false, false, false, false] rfl rfl (any_of HT_.out (by kernel_rfl)) (fun _ _ _ h => h) (Or.inl ⟨by rfl, ?_⟩) ?_ ?_
                rotate_left
                · intro w'
                  go_simp
                  with_reducible rfl
                rotate_left
                · simp only [Act.put, List.setIfInBounds_toArray, List.set_cons_zero, List.set_cons_succ, i64_w, i32_w]
                  rfl
                refine pure_ (i := 2) (N := some 42) (v := ?_) (a' := ?_) #[false, true, true, false, false, false, false, false, false, false, false, false, false] rfl rfl (any_of HT_.out (by kernel_rfl)) (fun _ _ _ h => h) (Or.inl ⟨by rfl, ?_⟩) ?_ ?_
                rotate_left
                · intro w'
                  go_simp
                  with_reducible rfl
                rotate_left
                · simp only [Act.put, List.setIfInBounds_toArray, List.set_cons_zero, List.set_cons_succ, i64_w, i32_w]
                  rfl
                refine pure_ (i := 3) (N := some 43) (v := ?_) (a' := ?_) #[false, true, true, true, false, false, false, false, false, false, false, false, false] rfl rfl (any_of HT_.out (by kernel_rfl)) (fun _ _ _ h => h) (Or.inl ⟨by rfl, ?_⟩) ?_ ?_
                rotate_left
                · intro w'
                  go_simp
                  with_reducible rfl
                rotate_left
                · simp only [Act.put, List.setIfInBounds_toArray, List.set_cons_zero, List.set_cons_succ, i64_w, i32_w]
                  rfl
                refine pure_ (i := 4) (N := some 44) (v := ?_) (a' := ?_) #[false, true, true, true, true, false, false, false, false, false, false, false, false] rfl rfl (any_of HT_.out (by kernel_rfl)) (fun _ _ _ h => h) (Or.inl ⟨by rfl, ?_⟩) ?_ ?_
                rotate_left
                · intro w'
                  go_simp
                  with_reducible rfl
                rotate_left
                · simp only [Act.put, List.setIfInBounds_toArray, List.set_cons_zero, List.set_cons_succ, i64_w, i32_w]
                  rfl
                refine take_ (i := 0) (N := some 40) (v := ?_) (a' := ?_) #[true, true, true, true, true, false, false, false, false, false, false, false, false] rfl rfl (take_ofW HT_.out HW_.out (by kernel_rfl)) (fun _ _ _ h => h) (Or.inl ⟨by rfl, ?_⟩) hHeld ?_ ?_
                rotate_left
                · rintro w' ⟨s0, s1, s2⟩
                  go_simp
                  with_reducible rfl
                rotate_left
                · simp only [Act.put, List.setIfInBounds_toArray, List.set_cons_zero, List.set_cons_succ, i64_w, i32_w]
                  rfl
                refine take_ (i := 5) (N := some 45) (v := ?_) (a' := ?_) #[true, true, true, true, true, true, false, false, false, false, false, false, false] rfl rfl (take_ofW HT_.out HW_.out (by kernel_rfl)) (fun _ _ _ h => h) (Or.inl ⟨by rfl, ?_⟩) hHeld ?_ ?_
                rotate_left
                · rintro w' ⟨s0, s1, s2⟩
                  go_simp
                  with_reducible rfl
                rotate_left
                · simp only [Act.put, List.setIfInBounds_toArray, List.set_cons_zero, List.set_cons_succ, i64_w, i32_w]
                  rfl
                refine join_ (σ := Value × Nat) 2 #[true, true, true, true, true, true, true, true, true, true, true, false, false] (fun s_ => [(46, .tuple #[.agg #[.int .i64 t296, s_.1], .int .i64 t300]), (8, .pointer (some ⟨s_.2, 0, none⟩)), (39, .tuple #[.agg #[.int .i64 t296, s_.1], .int .i64 t300]), (47, .agg #[.int .i64 t296, s_.1]), (48, .int .i64 t300)]) (fun s_ w' => (w'.cell? ⟨gb291, 0, none⟩ = some (.int .i64 a0_0) ∧ w'.cell? ⟨gb291, 1, none⟩ = some (.slice A0_1 l0_1.length c0_1) ∧ w'.cell? (ad295.add ((ji29)).toNat) = some (.int .i64 (rd l1 (ji29)))) ∧ (Kd.S k33 33 w' w.heap.size (fun _ => True) s_.1 t297) ∧ (w'.heap[gb291]? = some (.cells #[.int .i64 a0_0, .slice A0_1 l0_1.length c0_1] 24 (0, 0))) ∧ (w'.heap[gb292]? = some (.cells #[.int .i64 a2_0, .int .i64 a2_1] 55 (0, 0))) ∧ (w'.heap[s_.2]? = some (.cells #[.int .i64 0, .slice none 0 0] 24 (0, 0))) ∧ (w.heap.size ≤ s_.2) ∧ (w.heap.size ≤ s_.2) ∧ (gb291 ≠ s_.2) ∧ (s_.2 ≠ gb291) ∧ (gb292 ≠ s_.2) ∧ (s_.2 ≠ gb292) ∧ (Below w.heap.size w w')) ?_ ?_
                rotate_left
                · intro hCont
                  refine two_ (i := 6) (j := 10) (Ni := some 46) (Nj := some 8) #[true, true, true, true, true, true, true, false, false, false, false, false, false] #[true, true, true, true, true, true, false, false, false, false, true, false, false] rfl rfl rfl rfl (two_of HT_.out (by kernel_rfl)) (by decide) (by decide) (fun K hK => ?_) (fun K hK => ?_)
                  · skip
                    refine goes_ Tryd.func43 (by kernel_rfl) rfl #[.agg #[.int .i64 a0_0, .slice A0_1 l0_1.length c0_1], .int .i64 ji29, .int .i64 (rd l1 (ji29))] (by rfl) rfl rfl (by (try simp only [List.map_toArray, List.map_cons, List.map_nil]); first | done | (simp only [hji29]; rfl) | rfl | (simp only [List.length_drop, List.length_take]; rfl)) ?_
                    with_reducible refine (linear_Substitute.calls kj3 a0_0 _ _ l0_1 ji29 (rd l1 (ji29)) t296 t297 t300 _ ?side1 ?side2 A32.out).mono ?_
                    (case side1 => repeat (first | exact (Kd.C_below HR0_1.out HB.out) | (with_reducible refine Kd.C_alloc ?_ _) | (with_reducible refine Kd.C_drewN ?_ _) | (with_reducible refine Kd.C_drew ?_)))
                    (case side2 => exact HC0_1.out)
                    rintro e w80 ⟨v298, rfl, ho0, hb⟩
                    refine ⟨_, rfl, ?_⟩
                    have n0_ := Aside0.mk (Kd.S_lower ho0 (below_size (by repeat (first | (with_reducible first | exact HB.out | apply below_alloc | apply pw_below_drewN | apply below_drew1 | refine below_set ?_ GE291.out | refine below_set ?_ GE292.out) | exact HB.out))))
                    have n1_ := Aside0.mk (blk_below (g := gb291) (o := .cells #[.int .i64 a0_0, .slice A0_1 l0_1.length c0_1] 24 (0, 0)) (by (with_reducible repeat (first | refine blk_drewN ?_ _ | refine blk_drew ?_ | refine blk_alloc ?_ _)); exact BK291.out) hb)
                    have n2_ := Aside0.mk (blk_below (g := gb292) (o := .cells #[.int .i64 a2_0, .int .i64 a2_1] 55 (0, 0)) (by (with_reducible repeat (first | refine blk_drewN ?_ _ | refine blk_drew ?_ | refine blk_alloc ?_ _)); exact BK292.out) hb)
                    have n3_ := Aside0.mk (below_step (by repeat (first | (with_reducible first | exact HB.out | apply below_alloc | apply pw_below_drewN | apply below_drew1 | refine below_set ?_ GE291.out | refine below_set ?_ GE292.out) | exact HB.out)) hb)
                    clear BK291
                    clear BK292
                    clear HB
                    have HO299 := n0_
                    have BK291 := n1_
                    have BK292 := n2_
                    have HB := n3_
                    clear n0_ n1_ n2_ n3_
                    (try clear hb)
                    (try clear hb2)
                    (try clear hk)
                    (try clear hi)
                    (try clear ho0)
                    refine hK.out _ _ ⟨(blk_cell BK291.out 0).trans rfl, (blk_cell BK291.out 1).trans rfl, ((HB.out.cell (World.block_lt_of_cell? w _ hw295_0)).trans hw295_0)⟩ (fun hHeld => ?_)
                    clear hK K
                    refine norm_ (a' := ?_) ?_ ?_
                    rotate_left
                    · show Act.put _ (some 46) _ = _
                      simp only [Act.put, List.setIfInBounds_toArray, List.set_cons_zero, List.set_cons_succ, i64_w, i32_w]
                      rfl
                    refine pure_ (i := 7) (N := some 39) (v := ?_) (a' := ?_) #[true, true, true, true, true, true, true, true, false, false, false, false, false] rfl rfl (any_of HT_.out (by kernel_rfl)) (fun _ _ _ h => h) (Or.inl ⟨by rfl, ?_⟩) ?_ ?_
                    rotate_left
                    · intro w'
                      go_simp
                      with_reducible rfl
                    rotate_left
                    · simp only [Act.put, List.setIfInBounds_toArray, List.set_cons_zero, List.set_cons_succ, i64_w, i32_w]
                      rfl
                    refine pure_ (i := 8) (N := some 47) (v := ?_) (a' := ?_) #[true, true, true, true, true, true, true, true, true, false, false, false, false] rfl rfl (any_of HT_.out (by kernel_rfl)) (fun _ _ _ h => h) (Or.inl ⟨by rfl, ?_⟩) ?_ ?_
                    rotate_left
                    · intro w'
                      go_simp
                      with_reducible rfl
                    rotate_left
                    · simp only [Act.put, List.setIfInBounds_toArray, List.set_cons_zero, List.set_cons_succ, i64_w, i32_w]
                      rfl
                    refine pure_ (i := 9) (N := some 48) (v := ?_) (a' := ?_) #[true, true, true, true, true, true, true, true, true, true, false, false, false] rfl rfl (any_of HT_.out (by kernel_rfl)) (fun _ _ _ h => h) (Or.inl ⟨by rfl, ?_⟩) ?_ ?_
                    rotate_left
                    · intro w'
                      go_simp
                      with_reducible rfl
                    rotate_left
                    · simp only [Act.put, List.setIfInBounds_toArray, List.set_cons_zero, List.set_cons_succ, i64_w, i32_w]
                      rfl
                    refine one_ (i := 10) (N := some 8) #[true, true, true, true, true, true, true, true, true, true, true, false, false] rfl rfl (one_of HT_.out (by kernel_rfl)) (by decide) (fun K hK => ?_)
                    refine box_step ?hg (N := 8) ?hd (cs := #[.int .i64 0, .slice none 0 0]) (t := 24) ?hr ?_; (case hd => rfl); (case hg => rfl); (case hr => first | (go_simp; done) | (go_simp; rfl))
                    intro gb301 hg w81 hbox hb
                    have n0_ := Aside0.mk (Kd.S_below (by (with_reducible repeat (first | apply Kd.S_alloc | apply Kd.S_drewN | apply Kd.S_drew)); exact HO299.out) hb)
                    have n1_ := Aside0.mk (blk_below (g := gb291) (o := .cells #[.int .i64 a0_0, .slice A0_1 l0_1.length c0_1] 24 (0, 0)) (by (with_reducible repeat (first | refine blk_drewN ?_ _ | refine blk_drew ?_ | refine blk_alloc ?_ _)); exact BK291.out) hb)
                    have n2_ := Aside0.mk (blk_below (g := gb292) (o := .cells #[.int .i64 a2_0, .int .i64 a2_1] 55 (0, 0)) (by (with_reducible repeat (first | refine blk_drewN ?_ _ | refine blk_drew ?_ | refine blk_alloc ?_ _)); exact BK292.out) hb)
                    have n3_ := Aside0.mk (below_step (by repeat (first | (with_reducible first | exact HB.out | apply below_alloc | apply pw_below_drewN | apply below_drew1 | refine below_set ?_ GE291.out | refine below_set ?_ GE292.out) | exact HB.out)) hb)
                    have n4_ := Aside0.mk (hbox)
                    have n5_ := Aside0.mk ((by rw [hg]; exact (below_size (by repeat (first | (with_reducible first | exact HB.out | apply below_alloc | apply pw_below_drewN | apply below_drew1 | refine below_set ?_ GE291.out | refine below_set ?_ GE292.out) | exact HB.out))) : w.heap.size ≤ gb301))
                    have n6_ := Aside0.mk ((by rw [hg]; exact (below_size (by repeat (first | (with_reducible first | exact HB.out | apply below_alloc | apply pw_below_drewN | apply below_drew1 | refine below_set ?_ GE291.out | refine below_set ?_ GE292.out) | exact HB.out))) : w.heap.size ≤ gb301))
                    have n7_ := Aside0.mk ((by rw [hg]; exact Nat.ne_of_lt (blk_lt (g := gb291) (o := .cells #[.int .i64 a0_0, .slice A0_1 l0_1.length c0_1] 24 (0, 0)) (by (with_reducible repeat (first | refine blk_drewN ?_ _ | refine blk_drew ?_ | refine blk_alloc ?_ _)); exact BK291.out)) : gb291 ≠ gb301))
                    have n8_ := Aside0.mk ((by rw [hg]; exact Nat.ne_of_gt (blk_lt (g := gb291) (o := .cells #[.int .i64 a0_0, .slice A0_1 l0_1.length c0_1] 24 (0, 0)) (by (with_reducible repeat (first | refine blk_drewN ?_ _ | refine blk_drew ?_ | refine blk_alloc ?_ _)); exact BK291.out)) : gb301 ≠ gb291))
                    have n9_ := Aside0.mk ((by rw [hg]; exact Nat.ne_of_lt (blk_lt (g := gb292) (o := .cells #[.int .i64 a2_0, .int .i64 a2_1] 55 (0, 0)) (by (with_reducible repeat (first | refine blk_drewN ?_ _ | refine blk_drew ?_ | refine blk_alloc ?_ _)); exact BK292.out)) : gb292 ≠ gb301))
                    have n10_ := Aside0.mk ((by rw [hg]; exact Nat.ne_of_gt (blk_lt (g := gb292) (o := .cells #[.int .i64 a2_0, .int .i64 a2_1] 55 (0, 0)) (by (with_reducible repeat (first | refine blk_drewN ?_ _ | refine blk_drew ?_ | refine blk_alloc ?_ _)); exact BK292.out)) : gb301 ≠ gb292))
                    clear HO299
                    clear BK291
                    clear BK292
                    clear HB
                    have HO299 := n0_
                    have BK291 := n1_
                    have BK292 := n2_
                    have HB := n3_
                    have BK301 := n4_
                    have GW301 := n5_
                    have GE301 := n6_
                    have NB291_301 := n7_
                    have NB301_291 := n8_
                    have NB292_301 := n9_
                    have NB301_292 := n10_
                    clear n0_ n1_ n2_ n3_ n4_ n5_ n6_ n7_ n8_ n9_ n10_
                    clear hb hbox hg
                    refine hK.out _ _ ⟨(blk_cell BK291.out 0).trans rfl, (blk_cell BK291.out 1).trans rfl, ((HB.out.cell (World.block_lt_of_cell? w _ hw295_0)).trans hw295_0)⟩ (fun hHeld => ?_)
                    clear hK K
                    refine norm_ (a' := ?_) ?_ ?_
                    rotate_left
                    · show Act.put _ (some 8) _ = _
                      simp only [Act.put, List.setIfInBounds_toArray, List.set_cons_zero, List.set_cons_succ, i64_w, i32_w]
                      rfl
                    exact norm_ (by simp only [putAll, Act.put, List.setIfInBounds_toArray, List.set_cons_zero, List.set_cons_succ]) (hCont (v298, gb301) _ ⟨hHeld, (by (with_reducible repeat (first | apply Kd.S_alloc | apply Kd.S_drewN | apply Kd.S_drew)); exact HO299.out), (by (with_reducible repeat (first | refine blk_drewN ?_ _ | refine blk_drew ?_ | refine blk_alloc ?_ _)); exact BK291.out), (by (with_reducible repeat (first | refine blk_drewN ?_ _ | refine blk_drew ?_ | refine blk_alloc ?_ _)); exact BK292.out), (by (with_reducible repeat (first | refine blk_drewN ?_ _ | refine blk_drew ?_ | refine blk_alloc ?_ _)); exact BK301.out), GW301.out, GE301.out, NB291_301.out, NB301_291.out, NB292_301.out, NB301_292.out, (by repeat (first | (with_reducible first | exact HB.out | apply below_alloc | apply pw_below_drewN | apply below_drew1 | refine below_set ?_ GE291.out | refine below_set ?_ GE292.out | refine below_set ?_ GE301.out) | exact HB.out))⟩)
                  · skip
                    refine box_step ?hg (N := 8) ?hd (cs := #[.int .i64 0, .slice none 0 0]) (t := 24) ?hr ?_; (case hd => rfl); (case hg => rfl); (case hr => first | (go_simp; done) | (go_simp; rfl))
                    intro gb301 hg w80 hbox hb
                    have n0_ := Aside0.mk (blk_below (g := gb291) (o := .cells #[.int .i64 a0_0, .slice A0_1 l0_1.length c0_1] 24 (0, 0)) (by (with_reducible repeat (first | refine blk_drewN ?_ _ | refine blk_drew ?_ | refine blk_alloc ?_ _)); exact BK291.out) hb)
                    have n1_ := Aside0.mk (blk_below (g := gb292) (o := .cells #[.int .i64 a2_0, .int .i64 a2_1] 55 (0, 0)) (by (with_reducible repeat (first | refine blk_drewN ?_ _ | refine blk_drew ?_ | refine blk_alloc ?_ _)); exact BK292.out) hb)
                    have n2_ := Aside0.mk (below_step (by repeat (first | (with_reducible first | exact HB.out | apply below_alloc | apply pw_below_drewN | apply below_drew1 | refine below_set ?_ GE291.out | refine below_set ?_ GE292.out) | exact HB.out)) hb)
                    have n3_ := Aside0.mk (hbox)
                    have n4_ := Aside0.mk ((by rw [hg]; exact (below_size (by repeat (first | (with_reducible first | exact HB.out | apply below_alloc | apply pw_below_drewN | apply below_drew1 | refine below_set ?_ GE291.out | refine below_set ?_ GE292.out) | exact HB.out))) : w.heap.size ≤ gb301))
                    have n5_ := Aside0.mk ((by rw [hg]; exact (below_size (by repeat (first | (with_reducible first | exact HB.out | apply below_alloc | apply pw_below_drewN | apply below_drew1 | refine below_set ?_ GE291.out | refine below_set ?_ GE292.out) | exact HB.out))) : w.heap.size ≤ gb301))
                    have n6_ := Aside0.mk ((by rw [hg]; exact Nat.ne_of_lt (blk_lt (g := gb291) (o := .cells #[.int .i64 a0_0, .slice A0_1 l0_1.length c0_1] 24 (0, 0)) (by (with_reducible repeat (first | refine blk_drewN ?_ _ | refine blk_drew ?_ | refine blk_alloc ?_ _)); exact BK291.out)) : gb291 ≠ gb301))
                    have n7_ := Aside0.mk ((by rw [hg]; exact Nat.ne_of_gt (blk_lt (g := gb291) (o := .cells #[.int .i64 a0_0, .slice A0_1 l0_1.length c0_1] 24 (0, 0)) (by (with_reducible repeat (first | refine blk_drewN ?_ _ | refine blk_drew ?_ | refine blk_alloc ?_ _)); exact BK291.out)) : gb301 ≠ gb291))
                    have n8_ := Aside0.mk ((by rw [hg]; exact Nat.ne_of_lt (blk_lt (g := gb292) (o := .cells #[.int .i64 a2_0, .int .i64 a2_1] 55 (0, 0)) (by (with_reducible repeat (first | refine blk_drewN ?_ _ | refine blk_drew ?_ | refine blk_alloc ?_ _)); exact BK292.out)) : gb292 ≠ gb301))
                    have n9_ := Aside0.mk ((by rw [hg]; exact Nat.ne_of_gt (blk_lt (g := gb292) (o := .cells #[.int .i64 a2_0, .int .i64 a2_1] 55 (0, 0)) (by (with_reducible repeat (first | refine blk_drewN ?_ _ | refine blk_drew ?_ | refine blk_alloc ?_ _)); exact BK292.out)) : gb301 ≠ gb292))
                    clear BK291
                    clear BK292
                    clear HB
                    have BK291 := n0_
                    have BK292 := n1_
                    have HB := n2_
                    have BK301 := n3_
                    have GW301 := n4_
                    have GE301 := n5_
                    have NB291_301 := n6_
                    have NB301_291 := n7_
                    have NB292_301 := n8_
                    have NB301_292 := n9_
                    clear n0_ n1_ n2_ n3_ n4_ n5_ n6_ n7_ n8_ n9_
                    clear hb hbox hg
                    refine hK.out _ _ ⟨(blk_cell BK291.out 0).trans rfl, (blk_cell BK291.out 1).trans rfl, ((HB.out.cell (World.block_lt_of_cell? w _ hw295_0)).trans hw295_0)⟩ (fun hHeld => ?_)
                    clear hK K
                    refine norm_ (a' := ?_) ?_ ?_
                    rotate_left
                    · show Act.put _ (some 8) _ = _
                      simp only [Act.put, List.setIfInBounds_toArray, List.set_cons_zero, List.set_cons_succ, i64_w, i32_w]
                      rfl
                    refine one_ (i := 6) (N := some 46) #[true, true, true, true, true, true, true, false, false, false, true, false, false] rfl rfl (one_of HT_.out (by kernel_rfl)) (by decide) (fun K hK => ?_)
                    refine goes_ Tryd.func43 (by kernel_rfl) rfl #[.agg #[.int .i64 a0_0, .slice A0_1 l0_1.length c0_1], .int .i64 ji29, .int .i64 (rd l1 (ji29))] (by rfl) rfl rfl (by (try simp only [List.map_toArray, List.map_cons, List.map_nil]); first | done | (simp only [hji29]; rfl) | rfl | (simp only [List.length_drop, List.length_take]; rfl)) ?_
                    with_reducible refine (linear_Substitute.calls kj3 a0_0 _ _ l0_1 ji29 (rd l1 (ji29)) t296 t297 t300 _ ?side1 ?side2 A32.out).mono ?_
                    (case side1 => repeat (first | exact (Kd.C_below HR0_1.out HB.out) | (with_reducible refine Kd.C_alloc ?_ _) | (with_reducible refine Kd.C_drewN ?_ _) | (with_reducible refine Kd.C_drew ?_)))
                    (case side2 => exact HC0_1.out)
                    rintro e w81 ⟨v298, rfl, ho0, hb⟩
                    refine ⟨_, rfl, ?_⟩
                    have n0_ := Aside0.mk (Kd.S_lower ho0 (below_size (by repeat (first | (with_reducible first | exact HB.out | apply below_alloc | apply pw_below_drewN | apply below_drew1 | refine below_set ?_ GE291.out | refine below_set ?_ GE292.out | refine below_set ?_ GE301.out) | exact HB.out))))
                    have n1_ := Aside0.mk (blk_below (g := gb291) (o := .cells #[.int .i64 a0_0, .slice A0_1 l0_1.length c0_1] 24 (0, 0)) (by (with_reducible repeat (first | refine blk_drewN ?_ _ | refine blk_drew ?_ | refine blk_alloc ?_ _)); exact BK291.out) hb)
                    have n2_ := Aside0.mk (blk_below (g := gb292) (o := .cells #[.int .i64 a2_0, .int .i64 a2_1] 55 (0, 0)) (by (with_reducible repeat (first | refine blk_drewN ?_ _ | refine blk_drew ?_ | refine blk_alloc ?_ _)); exact BK292.out) hb)
                    have n3_ := Aside0.mk (blk_below (g := gb301) (o := .cells #[.int .i64 0, .slice none 0 0] 24 (0, 0)) (by (with_reducible repeat (first | refine blk_drewN ?_ _ | refine blk_drew ?_ | refine blk_alloc ?_ _)); exact BK301.out) hb)
                    have n4_ := Aside0.mk (below_step (by repeat (first | (with_reducible first | exact HB.out | apply below_alloc | apply pw_below_drewN | apply below_drew1 | refine below_set ?_ GE291.out | refine below_set ?_ GE292.out | refine below_set ?_ GE301.out) | exact HB.out)) hb)
                    clear BK291
                    clear BK292
                    clear BK301
                    clear HB
                    have HO299 := n0_
                    have BK291 := n1_
                    have BK292 := n2_
                    have BK301 := n3_
                    have HB := n4_
                    clear n0_ n1_ n2_ n3_ n4_
                    (try clear hb)
                    (try clear hb2)
                    (try clear hk)
                    (try clear hi)
                    (try clear ho0)
                    refine hK.out _ _ ⟨(blk_cell BK291.out 0).trans rfl, (blk_cell BK291.out 1).trans rfl, ((HB.out.cell (World.block_lt_of_cell? w _ hw295_0)).trans hw295_0)⟩ (fun hHeld => ?_)
                    clear hK K
                    refine norm_ (a' := ?_) ?_ ?_
                    rotate_left
                    · show Act.put _ (some 46) _ = _
                      simp only [Act.put, List.setIfInBounds_toArray, List.set_cons_zero, List.set_cons_succ, i64_w, i32_w]
                      rfl
                    refine pure_ (i := 7) (N := some 39) (v := ?_) (a' := ?_) #[true, true, true, true, true, true, true, true, false, false, true, false, false] rfl rfl (any_of HT_.out (by kernel_rfl)) (fun _ _ _ h => h) (Or.inl ⟨by rfl, ?_⟩) ?_ ?_
                    rotate_left
                    · intro w'
                      go_simp
                      with_reducible rfl
                    rotate_left
                    · simp only [Act.put, List.setIfInBounds_toArray, List.set_cons_zero, List.set_cons_succ, i64_w, i32_w]
                      rfl
                    refine pure_ (i := 8) (N := some 47) (v := ?_) (a' := ?_) #[true, true, true, true, true, true, true, true, true, false, true, false, false] rfl rfl (any_of HT_.out (by kernel_rfl)) (fun _ _ _ h => h) (Or.inl ⟨by rfl, ?_⟩) ?_ ?_
                    rotate_left
                    · intro w'
                      go_simp
                      with_reducible rfl
                    rotate_left
                    · simp only [Act.put, List.setIfInBounds_toArray, List.set_cons_zero, List.set_cons_succ, i64_w, i32_w]
                      rfl
                    refine pure_ (i := 9) (N := some 48) (v := ?_) (a' := ?_) #[true, true, true, true, true, true, true, true, true, true, true, false, false] rfl rfl (any_of HT_.out (by kernel_rfl)) (fun _ _ _ h => h) (Or.inl ⟨by rfl, ?_⟩) ?_ ?_
                    rotate_left
                    · intro w'
                      go_simp
                      with_reducible rfl
                    rotate_left
                    · simp only [Act.put, List.setIfInBounds_toArray, List.set_cons_zero, List.set_cons_succ, i64_w, i32_w]
                      rfl
                    exact norm_ (by simp only [putAll, Act.put, List.setIfInBounds_toArray, List.set_cons_zero, List.set_cons_succ]) (hCont (v298, gb301) _ ⟨hHeld, (by (with_reducible repeat (first | apply Kd.S_alloc | apply Kd.S_drewN | apply Kd.S_drew)); exact HO299.out), (by (with_reducible repeat (first | refine blk_drewN ?_ _ | refine blk_drew ?_ | refine blk_alloc ?_ _)); exact BK291.out), (by (with_reducible repeat (first | refine blk_drewN ?_ _ | refine blk_drew ?_ | refine blk_alloc ?_ _)); exact BK292.out), (by (with_reducible repeat (first | refine blk_drewN ?_ _ | refine blk_drew ?_ | refine blk_alloc ?_ _)); exact BK301.out), GW301.out, GE301.out, NB291_301.out, NB301_291.out, NB292_301.out, NB301_292.out, (by repeat (first | (with_reducible first | exact HB.out | apply below_alloc | apply pw_below_drewN | apply below_drew1 | refine below_set ?_ GE291.out | refine below_set ?_ GE292.out | refine below_set ?_ GE301.out) | exact HB.out))⟩)
                rintro ⟨v298, gb301⟩ w82 ⟨hS_, h0_, h1_, h2_, h3_, h4_, h5_, h6_, h7_, h8_, h9_, h10_⟩
                have n0_ : Aside0 (Kd.S k33 33 w82 w.heap.size (fun _ => True) v298 t297) := ⟨h0_⟩
                have n1_ : Aside0 (w82.heap[gb291]? = some (.cells #[.int .i64 a0_0, .slice A0_1 l0_1.length c0_1] 24 (0, 0))) := ⟨h1_⟩
                have n2_ : Aside0 (w82.heap[gb292]? = some (.cells #[.int .i64 a2_0, .int .i64 a2_1] 55 (0, 0))) := ⟨h2_⟩
                have n3_ : Aside0 (w82.heap[gb301]? = some (.cells #[.int .i64 0, .slice none 0 0] 24 (0, 0))) := ⟨h3_⟩
                have n4_ : Aside0 (w.heap.size ≤ gb301) := ⟨h4_⟩
                have n5_ : Aside0 (w.heap.size ≤ gb301) := ⟨h5_⟩
                have n6_ : Aside0 (gb291 ≠ gb301) := ⟨h6_⟩
                have n7_ : Aside0 (gb301 ≠ gb291) := ⟨h7_⟩
                have n8_ : Aside0 (gb292 ≠ gb301) := ⟨h8_⟩
                have n9_ : Aside0 (gb301 ≠ gb292) := ⟨h9_⟩
                have n10_ : Aside0 (Below w.heap.size w w82) := ⟨h10_⟩
                clear BK291
                clear BK292
                clear HB
                clear h0_ h1_ h2_ h3_ h4_ h5_ h6_ h7_ h8_ h9_ h10_
                have HO299 := n0_
                have BK291 := n1_
                have BK292 := n2_
                have BK301 := n3_
                have GW301 := n4_
                have GE301 := n5_
                have NB291_301 := n6_
                have NB301_291 := n7_
                have NB292_301 := n8_
                have NB301_292 := n9_
                have HB := n10_
                clear n0_ n1_ n2_ n3_ n4_ n5_ n6_ n7_ n8_ n9_ n10_
                have hHeld : w82.cell? ⟨gb291, 0, none⟩ = some (.int .i64 a0_0) ∧ w82.cell? ⟨gb291, 1, none⟩ = some (.slice A0_1 l0_1.length c0_1) ∧ w82.cell? (ad295.add ((ji29)).toNat) = some (.int .i64 (rd l1 (ji29))) := hS_
                obtain ⟨Ao84, co84, eo84⟩ := Kd.S_slice HO299.out
                (first | subst eo84 | (injection eo84 with f1_ f2_ f3_; have f4_ := f1_.symm; have f5_ := f3_.symm; clear f1_ f2_ f3_; subst f4_; subst f5_))
                refine norm_ (a' := ?_) ?_ ?_
                rotate_left
                · simp only [putAll, Act.put, List.setIfInBounds_toArray, List.set_cons_zero, List.set_cons_succ]
                  rfl
                refine one_ (i := 11) (N := none) #[true, true, true, true, true, true, true, true, true, true, true, true, false] rfl rfl (one_of HT_.out (by kernel_rfl)) (by decide) (fun K hK => ?_)
                have hs83 : w82.cell? ⟨gb301, 0, none⟩ = some (.int .i64 0) := (blk_cell BK301.out 0).trans rfl
                have hfs83 := blk_frozen BK301.out 0
                have hns83_0 := NB291_301.out
                have hns83_1 := NB292_301.out
                have hms83_0 := NB301_291.out
                have hms83_1 := NB301_292.out
                have hs85 : w82.cell? ⟨gb301, 1, none⟩ = some (.slice none 0 0) := (blk_cell BK301.out 1).trans rfl
                have hfs85 := blk_frozen BK301.out 1
                have hns85_0 := NB291_301.out
                have hns85_1 := NB292_301.out
                have hms85_0 := NB301_291.out
                have hms85_1 := NB301_292.out
                refine skip_ (w1 := ?_) (by rfl) rfl ?_ ?_
                rotate_left
                · go_simp
                  rfl
                refine hK.out _ _ ⟨((cell_far (p := ⟨gb301, _, none⟩) NB291_301.out _).trans (((cell_far (p := ⟨gb301, _, none⟩) NB291_301.out _).trans (hHeld.1)))), ((cell_far (p := ⟨gb301, _, none⟩) NB291_301.out _).trans (((cell_far (p := ⟨gb301, _, none⟩) NB291_301.out _).trans (hHeld.2.1)))), ((cell_far (p := ⟨gb301, _, none⟩) (by first | exact Nat.ne_of_lt (Nat.lt_of_lt_of_le (by have := World.block_lt_of_cell? _ _ hw295_0; first | rwa [add_block] at this | exact this) GW301.out) | (rw [add_block]; exact Nat.ne_of_lt (Nat.lt_of_lt_of_le (by have := World.block_lt_of_cell? _ _ hw295_0; first | rwa [add_block] at this | exact this) GW301.out)) | (show (Addr.add _ _).block ≠ _; rw [add_block]; exact Nat.ne_of_lt (Nat.lt_of_lt_of_le (by have := World.block_lt_of_cell? _ _ hw295_0; first | rwa [add_block] at this | exact this) GW301.out)) | (dsimp only; exact Nat.ne_of_lt (Nat.lt_of_lt_of_le (by have := World.block_lt_of_cell? _ _ hw295_0; first | rwa [add_block] at this | exact this) GW301.out))) _).trans (((cell_far (p := ⟨gb301, _, none⟩) (by first | exact Nat.ne_of_lt (Nat.lt_of_lt_of_le (by have := World.block_lt_of_cell? _ _ hw295_0; first | rwa [add_block] at this | exact this) GW301.out) | (rw [add_block]; exact Nat.ne_of_lt (Nat.lt_of_lt_of_le (by have := World.block_lt_of_cell? _ _ hw295_0; first | rwa [add_block] at this | exact this) GW301.out)) | (show (Addr.add _ _).block ≠ _; rw [add_block]; exact Nat.ne_of_lt (Nat.lt_of_lt_of_le (by have := World.block_lt_of_cell? _ _ hw295_0; first | rwa [add_block] at this | exact this) GW301.out)) | (dsimp only; exact Nat.ne_of_lt (Nat.lt_of_lt_of_le (by have := World.block_lt_of_cell? _ _ hw295_0; first | rwa [add_block] at this | exact this) GW301.out))) _).trans (hHeld.2.2))))⟩ (fun hHeld => ?_)
                clear hK K
                refine pure_ (i := 12) (N := some 9) (v := ?_) (a' := ?_) #[true, true, true, true, true, true, true, true, true, true, true, true, true] rfl rfl (any_of HT_.out (by kernel_rfl)) (fun _ _ _ h => h) (Or.inl ⟨by rfl, ?_⟩) ?_ ?_
                rotate_left
                · intro w'
                  go_simp
                  with_reducible rfl
                rotate_left
                · simp only [Act.put, List.setIfInBounds_toArray, List.set_cons_zero, List.set_cons_succ, i64_w, i32_w]
                  rfl
                refine done_ (done_of HT_.out (by kernel_rfl)) ?_
                try go_wp2_with (first | ((with_reducible refine gate_callee (f := 16) rfl ?_); refine goesL_ (some 51) rfl rfl Tryd.func16 (by kernel_rfl) rfl #[] rfl (by (try simp only [List.map_toArray, List.map_cons, List.map_nil]); first | done | rfl | (simp only [List.length_drop, List.length_take]; rfl)) ?_; (with_reducible refine (familychecklaw01_known.calls kj3  t302 _ A76.out).mono ?_); rintro e w86 ⟨rfl, hb⟩; refine ⟨_, rfl, ?_⟩; have n0_ := Aside0.mk (Kd.S_below (by (with_reducible repeat (first | apply Kd.S_alloc | apply Kd.S_drewN | apply Kd.S_drew)); exact (Kd.S_mono (Kd.S_far (p := ⟨gb301, 1, none⟩) (Kd.S_far (p := ⟨gb301, 0, none⟩) (Kd.S_types HO299.out BK301.out (by decide)) (fun _ hk => hk.2) (.int .i64 t296)) (fun _ hk => hk.2) (.slice Ao84 t297.length co84)) (fun _ h_ => h_.1))) hb); have n1_ := Aside0.mk (blk_below (g := gb291) (o := .cells #[.int .i64 a0_0, .slice A0_1 l0_1.length c0_1] 24 (0, 0)) (by (with_reducible repeat (first | refine blk_drewN ?_ _ | refine blk_drew ?_ | refine blk_alloc ?_ _)); refine blk_far ?_ NB291_301.out _; (with_reducible repeat (first | refine blk_drewN ?_ _ | refine blk_drew ?_ | refine blk_alloc ?_ _)); refine blk_far ?_ NB291_301.out _; (with_reducible repeat (first | refine blk_drewN ?_ _ | refine blk_drew ?_ | refine blk_alloc ?_ _)); exact BK291.out) hb); have n2_ := Aside0.mk (blk_below (g := gb292) (o := .cells #[.int .i64 a2_0, .int .i64 a2_1] 55 (0, 0)) (by (with_reducible repeat (first | refine blk_drewN ?_ _ | refine blk_drew ?_ | refine blk_alloc ?_ _)); refine blk_far ?_ NB292_301.out _; (with_reducible repeat (first | refine blk_drewN ?_ _ | refine blk_drew ?_ | refine blk_alloc ?_ _)); refine blk_far ?_ NB292_301.out _; (with_reducible repeat (first | refine blk_drewN ?_ _ | refine blk_drew ?_ | refine blk_alloc ?_ _)); exact BK292.out) hb); have n3_ := Aside0.mk (blk_below (g := gb301) (o := .cells #[.int .i64 t296, .slice Ao84 t297.length co84] 24 (0, 0)) (by (with_reducible repeat (first | refine blk_drewN ?_ _ | refine blk_drew ?_ | refine blk_alloc ?_ _)); refine blk_put (cs := #[.int .i64 t296, .slice none 0 0]) ?_ 1 _ rfl; (with_reducible repeat (first | refine blk_drewN ?_ _ | refine blk_drew ?_ | refine blk_alloc ?_ _)); refine blk_put (cs := #[.int .i64 0, .slice none 0 0]) ?_ 0 _ rfl; (with_reducible repeat (first | refine blk_drewN ?_ _ | refine blk_drew ?_ | refine blk_alloc ?_ _)); exact BK301.out) hb); have n4_ := Aside0.mk (below_step (by repeat (first | (with_reducible first | exact HB.out | apply below_alloc | apply pw_below_drewN | apply below_drew1 | refine below_set ?_ GE291.out | refine below_set ?_ GE292.out | refine below_set ?_ GE301.out) | exact HB.out)) hb); clear HO299; clear BK291; clear BK292; clear BK301; clear HB; have HO299 := n0_; have BK291 := n1_; have BK292 := n2_; have BK301 := n3_; have HB := n4_; clear n0_ n1_ n2_ n3_ n4_; (try clear hb); (try clear hb2); (try clear hk); (try clear hi)))
                go_ret
                exact ⟨by first | rfl | (simp [errW_none, errW_some] <;> rfl) | (simp only [← hji29]; first | rfl | (simp [errW_none, errW_some] <;> rfl)) | (simp [*, errW_none, errW_some] <;> rfl), by repeat (first | (with_reducible first | exact HB.out | apply below_alloc | apply pw_below_drewN | apply below_drew1 | refine below_set ?_ GE291.out | refine below_set ?_ GE292.out | refine below_set ?_ GE301.out) | exact HB.out)⟩
            · rw [if_neg c31] at H
              exact absurd H (by simp)
          · rw [if_neg c30] at H
            exact absurd H (by simp)

end Go.Proofs.YtbioiodjdfcooaaDoor.P
