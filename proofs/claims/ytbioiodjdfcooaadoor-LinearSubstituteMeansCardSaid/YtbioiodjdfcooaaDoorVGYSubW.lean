/- linear_Substitute, printed: the walk. -/
import Derived.Test.YtbioiodjdfcooaaDoorVGPx0
import Derived.Test.YtbioiodjdfcooaaDoorVGPx1
import Derived.Test.YtbioiodjdfcooaaDoorVGPx3
import Derived.Test.YtbioiodjdfcooaaDoorVGPx32
import Derived.Test.YtbioiodjdfcooaaDoorVGYSub
import Derived.WalkMore
namespace Go.Proofs.YtbioiodjdfcooaaDoor.P
open Go.RowKit Go.Proofs.YtbioiodjdfcooaaDoorW.PrintWords Go.Proofs.YtbioiodjdfcooaaDoorW.PrintLast Go.Proofs.YtbioiodjdfcooaaDoorW.PrintMore
set_option linter.unusedVariables false
set_option linter.unusedSimpArgs false
open Build
def linear_Substitute.T11 : Bool × List (List Nat × List Nat) := (true, [([], []), ([0], [0]), ([1], [1]), ([2], [2]), ([], []), ([4], [4]), ([5], [5]), ([6], [6]), ([], []), ([7, 8], [7, 8]), ([9], [9]), ([], []), ([10, 11], [10, 11]), ([3, 12], [3, 12]), ([0, 0, 1, 2, 3, 4, 5, 6, 7, 8, 9, 10, 11, 12, 13], [0]), ([14, 0, 1, 2, 3, 4, 5, 6, 7, 8, 9, 10, 11, 12, 13], [14]), ([15, 13, 0, 1, 2, 3, 4, 5, 6, 7, 8, 9, 10, 11, 12, 13], [13, 15])])
def linear_Substitute.B11 : List Nat := [0, 1, 3, 7, 0, 16, 48, 112, 0, 496, 1008, 0, 4080, 8191, 16383, 32767, 65535]
theorem linear_Substitute.tab11 : rtab .any (opsOf Tryd.f43 11) = linear_Substitute.T11 := by kernel_rfl
theorem linear_Substitute.bits11 : waitsOk linear_Substitute.T11.2 linear_Substitute.B11 = true := by kernel_rfl
set_option maxHeartbeats 8000000 in
set_option maxRecDepth 100000 in
theorem linear_Substitute.calls (k : Nat) (a0_0 : Int) (A0_1 : Option Addr) (c0_1 : Nat) (l0_1 : List (S33)) (a1 : Int) (a2 : Int) (r1 : Int) (r2 : List (S33)) (r3 : Int) (w : World) (hr0_1 : Kd.C k33 w A0_1 l0_1.length l0_1) (hc0_1 : l0_1.length ≤ c0_1) (h : linear_Substitute.f k a0_0 l0_1 a1 a2 = some (r1, r2, r3)) :
    Calls Tryd.prog 43 #[.agg #[.int .i64 a0_0, .slice A0_1 l0_1.length c0_1], .int .i64 a1, .int .i64 a2] w fun e w' => ∃ v1_ : Value, e = .returned (.tuple #[.agg #[.int .i64 r1, v1_], .int .i64 r3]) ∧ Kd.S k33 33 w' w.heap.size (fun _ => True) v1_ r2 ∧ Below w.heap.size w w' := by
  have hu24 := Tryd.underlying24
  have HR0_1 := Aside0.mk hr0_1
  have HC0_1 := Aside0.mk hc0_1
  clear hr0_1 hc0_1
  have HB := Aside0.mk (Below.refl w.heap.size w)
  have H : ((linear_Validate.f k a0_0 l0_1).bind fun t218 => (if t218 = 0 then (if a1 < 0 then (linear_Substitute.j0 k a1 a2 true a0_0 l0_1) else (if a1 ≥ a0_0 then (linear_Substitute.j0 k a1 a2 true a0_0 l0_1) else (if a2 < 0 then (linear_Substitute.j0 k a1 a2 true a0_0 l0_1) else (linear_Substitute.j0 k a1 a2 (decide (a2 > 1048576)) a0_0 l0_1)))) else (some (0, ([] : List (S33)), t218)))) = some (r1, r2, r3) := h
  clear h
  replace H := Option.bind_eq_some_iff.mp H
  obtain ⟨t218, A40, H⟩ := H
  replace H : (if t218 = 0 then (if a1 < 0 then (linear_Substitute.j0 k a1 a2 true a0_0 l0_1) else (if a1 ≥ a0_0 then (linear_Substitute.j0 k a1 a2 true a0_0 l0_1) else (if a2 < 0 then (linear_Substitute.j0 k a1 a2 true a0_0 l0_1) else (linear_Substitute.j0 k a1 a2 (decide (a2 > 1048576)) a0_0 l0_1)))) else (some (0, ([] : List (S33)), t218))) = some (r1, r2, r3) := H
  have A4 := Aside0.mk A40
  clear A40
  by_cases c5 : t218 = 0
  · rw [if_pos c5] at H
    have c5b0 : (t218 == 0) = true := beq_iff_eq.mpr c5
    have c5b1 : (t218 != 0) = false := bne_eq_false_iff_eq.mpr c5
    clear c5
    have HC6 := Aside0.mk H
    clear H
    go_enter Tryd.func43, Tryd.ntmps43
    go_upto_region 4 with (first | ((with_reducible refine gate_dst (N := 3) rfl ?_); refine box_event ?hg (N := 3) ?hd (cs := #[.int .i64 a0_0, .slice A0_1 l0_1.length c0_1]) (t := 24) ?hr ?_; (case hd => rfl); (case hg => rfl); (case hr => first | (go_simp; done) | (go_simp; rfl)); intro gb216 hg w7 hbox hb; have n0_ := Aside0.mk (below_step (by repeat (first | (with_reducible first | exact HB.out | apply below_alloc | apply pw_below_drewN | apply below_drew1) | exact HB.out)) hb); have n1_ := Aside0.mk (hbox); have n2_ := Aside0.mk ((by rw [hg]; exact (below_size (by repeat (first | (with_reducible first | exact HB.out | apply below_alloc | apply pw_below_drewN | apply below_drew1) | exact HB.out))) : w.heap.size ≤ gb216)); have n3_ := Aside0.mk ((by rw [hg]; exact (below_size (by repeat (first | (with_reducible first | exact HB.out | apply below_alloc | apply pw_below_drewN | apply below_drew1) | exact HB.out))) : w.heap.size ≤ gb216)); clear HB; have HB := n0_; have BK216 := n1_; have GW216 := n2_; have GE216 := n3_; clear n0_ n1_ n2_ n3_; clear hb hbox hg) | ((with_reducible refine gate_dst (N := 6) rfl ?_); refine box_event ?hg (N := 6) ?hd (cs := #[.int .i64 0, .slice none 0 0]) (t := 24) ?hr ?_; (case hd => rfl); (case hg => rfl); (case hr => first | (go_simp; done) | (go_simp; rfl)); intro gb217 hg w8 hbox hb; have n0_ := Aside0.mk (blk_below (g := gb216) (o := .cells #[.int .i64 a0_0, .slice A0_1 l0_1.length c0_1] 24 (0, 0)) (by (with_reducible repeat (first | refine blk_drewN ?_ _ | refine blk_drew ?_ | refine blk_alloc ?_ _)); exact BK216.out) hb); have n1_ := Aside0.mk (below_step (by repeat (first | (with_reducible first | exact HB.out | apply below_alloc | apply pw_below_drewN | apply below_drew1 | refine below_set ?_ GE216.out) | exact HB.out)) hb); have n2_ := Aside0.mk (hbox); have n3_ := Aside0.mk ((by rw [hg]; exact (below_size (by repeat (first | (with_reducible first | exact HB.out | apply below_alloc | apply pw_below_drewN | apply below_drew1 | refine below_set ?_ GE216.out) | exact HB.out))) : w.heap.size ≤ gb217)); have n4_ := Aside0.mk ((by rw [hg]; exact (below_size (by repeat (first | (with_reducible first | exact HB.out | apply below_alloc | apply pw_below_drewN | apply below_drew1 | refine below_set ?_ GE216.out) | exact HB.out))) : w.heap.size ≤ gb217)); have n5_ := Aside0.mk ((by rw [hg]; exact Nat.ne_of_lt (blk_lt (g := gb216) (o := .cells #[.int .i64 a0_0, .slice A0_1 l0_1.length c0_1] 24 (0, 0)) (by (with_reducible repeat (first | refine blk_drewN ?_ _ | refine blk_drew ?_ | refine blk_alloc ?_ _)); exact BK216.out)) : gb216 ≠ gb217)); have n6_ := Aside0.mk ((by rw [hg]; exact Nat.ne_of_gt (blk_lt (g := gb216) (o := .cells #[.int .i64 a0_0, .slice A0_1 l0_1.length c0_1] 24 (0, 0)) (by (with_reducible repeat (first | refine blk_drewN ?_ _ | refine blk_drew ?_ | refine blk_alloc ?_ _)); exact BK216.out)) : gb217 ≠ gb216)); clear BK216; clear HB; have BK216 := n0_; have HB := n1_; have BK217 := n2_; have GW217 := n3_; have GE217 := n4_; have NB216_217 := n5_; have NB217_216 := n6_; clear n0_ n1_ n2_ n3_ n4_ n5_ n6_; clear hb hbox hg; have hnb9 := NB216_217.out; have hnc9 := NB217_216.out; have hcz10_0 : w8.cell? ⟨gb216, 0, none⟩ = some (.int .i64 a0_0) := (blk_cell BK216.out 0).trans rfl; have hcz10_1 : w8.cell? ⟨gb216, 1, none⟩ = some (.slice A0_1 l0_1.length c0_1) := (blk_cell BK216.out 1).trans rfl; have hfz10_0 := blk_frozen BK216.out 0; have hfz10_1 := blk_frozen BK216.out 1) | ((with_reducible refine gate_callee (f := 18) rfl ?_); refine goesL_ (some 13) rfl rfl Tryd.func18 (by kernel_rfl) rfl #[.agg #[.int .i64 a0_0, .slice A0_1 l0_1.length c0_1]] rfl (by (try simp only [List.map_toArray, List.map_cons, List.map_nil]); first | done | rfl | (simp only [List.length_drop, List.length_take]; rfl)) ?_; (with_reducible refine (linear_Validate.calls k a0_0 _ _ l0_1 t218 _ ?side1 ?side2 A4.out).mono ?_); (case side1 => repeat (first | exact (Kd.C_below HR0_1.out HB.out) | (with_reducible refine Kd.C_alloc ?_ _) | (with_reducible refine Kd.C_drewN ?_ _) | (with_reducible refine Kd.C_drew ?_))); (case side2 => exact HC0_1.out); rintro e w11 ⟨rfl, hb⟩; refine ⟨_, rfl, ?_⟩; have n0_ := Aside0.mk (blk_below (g := gb216) (o := .cells #[.int .i64 a0_0, .slice A0_1 l0_1.length c0_1] 24 (0, 0)) (by (with_reducible repeat (first | refine blk_drewN ?_ _ | refine blk_drew ?_ | refine blk_alloc ?_ _)); exact BK216.out) hb); have n1_ := Aside0.mk (blk_below (g := gb217) (o := .cells #[.int .i64 0, .slice none 0 0] 24 (0, 0)) (by (with_reducible repeat (first | refine blk_drewN ?_ _ | refine blk_drew ?_ | refine blk_alloc ?_ _)); exact BK217.out) hb); have n2_ := Aside0.mk (below_step (by repeat (first | (with_reducible first | exact HB.out | apply below_alloc | apply pw_below_drewN | apply below_drew1 | refine below_set ?_ GE216.out | refine below_set ?_ GE217.out) | exact HB.out)) hb); clear BK216; clear BK217; clear HB; have BK216 := n0_; have BK217 := n1_; have HB := n2_; clear n0_ n1_ n2_; (try clear hb); (try clear hb2); (try clear hk); (try clear hi)))
    (try simp only [Act.put, List.setIfInBounds_toArray, List.set_cons_zero, List.set_cons_succ])
    go_cut [33] (fun v33 wc => ∃ (kq : Nat) (x33_5 : Bool), v33 = .bool x33_5 ∧ Aside0 (linear_Substitute.j0 kq a1 a2 x33_5 a0_0 l0_1 = some (r1, r2, r3)) ∧ Aside0 (kq ≤ k) ∧ Aside0 (wc.heap[gb216]? = some (.cells #[.int .i64 a0_0, (.slice A0_1 l0_1.length c0_1)] 24 (0, 0))) ∧ Aside0 (wc.heap[gb217]? = some (.cells #[.int .i64 0, (.slice none 0 0)] 24 (0, 0))) ∧ Aside0 (Below w.heap.size w wc))
    case first =>
      have H := HC6.out
      clear HC6
      by_cases c12 : a1 < 0
      · rw [if_pos c12] at H
        have c12b0 : decide (a1 < 0) = true := decide_eq_true c12
        clear c12
        (first | rw [c12b0] | (simp only [i64_w, i32_w]; rw [c12b0]) | skip)
        have H' := Aside0.mk H
        clear H
        go_wp2
        go_meet
        case rel => exact ⟨_, (true), (by first | rfl | (simp; done) | (simp [*]; done)), H', ⟨by first | omega | exact Nat.le_refl _⟩, ⟨by (with_reducible repeat (first | refine blk_drewN ?_ _ | refine blk_drew ?_ | refine blk_alloc ?_ _)); exact BK216.out⟩, ⟨by (with_reducible repeat (first | refine blk_drewN ?_ _ | refine blk_drew ?_ | refine blk_alloc ?_ _)); exact BK217.out⟩, ⟨by repeat (first | (with_reducible first | exact HB.out | apply below_alloc | apply pw_below_drewN | apply below_drew1 | refine below_set ?_ GE216.out | refine below_set ?_ GE217.out) | exact HB.out)⟩⟩
      · rw [if_neg c12] at H
        have c12b0 : decide (a1 < 0) = false := decide_eq_false c12
        clear c12
        (first | rw [c12b0] | (simp only [i64_w, i32_w]; rw [c12b0]) | skip)
        by_cases c13 : a1 ≥ a0_0
        · rw [if_pos c13] at H
          have c13b0 : decide (a0_0 ≤ a1) = true := decide_eq_true c13
          clear c13
          have H' := Aside0.mk H
          clear H
          have hnb14 := NB216_217.out
          have hnc14 := NB217_216.out
          have hcz15_0 : w11.cell? ⟨gb216, 0, none⟩ = some (.int .i64 a0_0) := (blk_cell BK216.out 0).trans rfl
          have hcz15_1 : w11.cell? ⟨gb216, 1, none⟩ = some (.slice A0_1 l0_1.length c0_1) := (blk_cell BK216.out 1).trans rfl
          have hfz15_0 := blk_frozen BK216.out 0
          have hfz15_1 := blk_frozen BK216.out 1
          go_wp2
          go_meet
          case rel => exact ⟨_, (true), (by first | rfl | (simp; done) | (simp [*]; done)), H', ⟨by first | omega | exact Nat.le_refl _⟩, ⟨by (with_reducible repeat (first | refine blk_drewN ?_ _ | refine blk_drew ?_ | refine blk_alloc ?_ _)); exact BK216.out⟩, ⟨by (with_reducible repeat (first | refine blk_drewN ?_ _ | refine blk_drew ?_ | refine blk_alloc ?_ _)); exact BK217.out⟩, ⟨by repeat (first | (with_reducible first | exact HB.out | apply below_alloc | apply pw_below_drewN | apply below_drew1 | refine below_set ?_ GE216.out | refine below_set ?_ GE217.out) | exact HB.out)⟩⟩
        · rw [if_neg c13] at H
          have c13b0 : decide (a0_0 ≤ a1) = false := decide_eq_false c13
          clear c13
          by_cases c16 : a2 < 0
          · rw [if_pos c16] at H
            have c16b0 : decide (a2 < 0) = true := decide_eq_true c16
            clear c16
            have H' := Aside0.mk H
            clear H
            have hnb17 := NB216_217.out
            have hnc17 := NB217_216.out
            have hcz18_0 : w11.cell? ⟨gb216, 0, none⟩ = some (.int .i64 a0_0) := (blk_cell BK216.out 0).trans rfl
            have hcz18_1 : w11.cell? ⟨gb216, 1, none⟩ = some (.slice A0_1 l0_1.length c0_1) := (blk_cell BK216.out 1).trans rfl
            have hfz18_0 := blk_frozen BK216.out 0
            have hfz18_1 := blk_frozen BK216.out 1
            go_wp2
            go_meet
            case rel => exact ⟨_, (true), (by first | rfl | (simp; done) | (simp [*]; done)), H', ⟨by first | omega | exact Nat.le_refl _⟩, ⟨by (with_reducible repeat (first | refine blk_drewN ?_ _ | refine blk_drew ?_ | refine blk_alloc ?_ _)); exact BK216.out⟩, ⟨by (with_reducible repeat (first | refine blk_drewN ?_ _ | refine blk_drew ?_ | refine blk_alloc ?_ _)); exact BK217.out⟩, ⟨by repeat (first | (with_reducible first | exact HB.out | apply below_alloc | apply pw_below_drewN | apply below_drew1 | refine below_set ?_ GE216.out | refine below_set ?_ GE217.out) | exact HB.out)⟩⟩
          · rw [if_neg c16] at H
            have c16b0 : decide (a2 < 0) = false := decide_eq_false c16
            clear c16
            have H' := Aside0.mk H
            clear H
            have hnb19 := NB216_217.out
            have hnc19 := NB217_216.out
            have hcz20_0 : w11.cell? ⟨gb216, 0, none⟩ = some (.int .i64 a0_0) := (blk_cell BK216.out 0).trans rfl
            have hcz20_1 : w11.cell? ⟨gb216, 1, none⟩ = some (.slice A0_1 l0_1.length c0_1) := (blk_cell BK216.out 1).trans rfl
            have hfz20_0 := blk_frozen BK216.out 0
            have hfz20_1 := blk_frozen BK216.out 1
            go_wp2
            go_meet
            case rel => exact ⟨_, (decide (a2 > 1048576)), (by first | rfl | (simp; done) | (simp [*]; done)), H', ⟨by first | omega | exact Nat.le_refl _⟩, ⟨by (with_reducible repeat (first | refine blk_drewN ?_ _ | refine blk_drew ?_ | refine blk_alloc ?_ _)); exact BK216.out⟩, ⟨by (with_reducible repeat (first | refine blk_drewN ?_ _ | refine blk_drew ?_ | refine blk_alloc ?_ _)); exact BK217.out⟩, ⟨by repeat (first | (with_reducible first | exact HB.out | apply below_alloc | apply pw_below_drewN | apply below_drew1 | refine below_set ?_ GE216.out | refine below_set ?_ GE217.out) | exact HB.out)⟩⟩
    case rest =>
      clear HC6
      try clear c1
      try clear p2
      try clear c4
      try clear c5
      try clear c5b0
      try clear c5b1
      try clear c9
      try clear c12
      try clear c12b0
      try clear c13
      try clear c13b0
      try clear c14
      try clear c16
      try clear c16b0
      try clear c17
      try clear c18
      try clear c19
      try clear hcz10_0
      try clear hcz10_1
      try clear hcz15_0
      try clear hcz15_1
      try clear hcz18_0
      try clear hcz18_1
      try clear hcz20_0
      try clear hcz20_1
      try clear hfz10_0
      try clear hfz10_1
      try clear hfz15_0
      try clear hfz15_1
      try clear hfz18_0
      try clear hfz18_1
      try clear hfz20_0
      try clear hfz20_1
      obtain ⟨kq, x33_5, rfl, HA, HJ5, BK216, BK217, HB⟩ := hcut
      cases kq with
      | zero => exact absurd HA.out (by simp [linear_Substitute.j0])
      | succ kj5 =>
        have H := HA.out
        clear HA
        simp only [linear_Substitute.j0] at H
        by_cases c21 : x33_5 = true
        · subst c21
          have H1 : (some (0, ([] : List (S33)), 1)) = some (r1, r2, r3) := by rw [if_pos rfl] at H; exact H
          clear H
          have H := H1
          clear H1
          simp only [Option.some.injEq, Prod.mk.injEq] at H
          obtain ⟨rfl, rfl, rfl⟩ := H
          have hnb22 := NB217_216.out
          have hnc22 := NB216_217.out
          have hcz23_0 : wc.cell? ⟨gb217, 0, none⟩ = some (.int .i64 0) := (blk_cell BK217.out 0).trans rfl
          have hcz23_1 : wc.cell? ⟨gb217, 1, none⟩ = some (.slice none 0 0) := (blk_cell BK217.out 1).trans rfl
          have hfz23_0 := blk_frozen BK217.out 0
          have hfz23_1 := blk_frozen BK217.out 1
          go_wp2
          refine bodyPost_ret (results_ct rfl _ _ gb217 24 #[.int .i64 0, .slice none 0 0] (0, 0) _ rfl (by (with_reducible repeat (first | refine blk_drewN ?_ _ | refine blk_drew ?_ | refine blk_alloc ?_ _)); refine blk_put (cs := #[.int .i64 0, .slice none 0 0]) ?_ 1 _ rfl; (with_reducible repeat (first | refine blk_drewN ?_ _ | refine blk_drew ?_ | refine blk_alloc ?_ _)); refine blk_put (cs := #[.int .i64 0, .slice none 0 0]) ?_ 0 _ rfl; (with_reducible repeat (first | refine blk_drewN ?_ _ | refine blk_drew ?_ | refine blk_alloc ?_ _)); exact BK217.out) Tryd.underlying24 rfl (by kernel_rfl)) rfl ?_
          exact ⟨_, by first | rfl | (simp [errW_none, errW_some] <;> rfl) | (simp [*, errW_none, errW_some] <;> rfl), by first | exact Kd.S_nil _ _ _ _ _ | exact Kd.N_nil _ _ _ _ _ | exact Kd.V_nil _ _ _ _ _ | exact Kd.Q_nil _ _ _ _ _ | exact Kd.R_nil _ _ _ _ _, by repeat (first | (with_reducible first | exact HB.out | apply below_alloc | apply pw_below_drewN | apply below_drew1 | refine below_set ?_ GE216.out | refine below_set ?_ GE217.out) | exact HB.out)⟩
        · replace c21 := Bool.eq_false_iff.mpr c21
          subst c21
          have H1 : ((linear_same.f kj5 a0_0 l0_1).bind fun bt219 => (linear_Substitute.l0 kj5 a1 a2 (bt219.2.length : Int) 0 bt219.1 bt219.2)) = some (r1, r2, r3) := by rw [if_neg (show ¬ (false = true) by decide)] at H; exact H
          clear H
          have H := H1
          clear H1
          replace H := Option.bind_eq_some_iff.mp H
          obtain ⟨⟨t219, t220⟩, A240, H⟩ := H
          replace H : (linear_Substitute.l0 kj5 a1 a2 (t220.length : Int) 0 t219 t220) = some (r1, r2, r3) := H
          have A24 := Aside0.mk A240
          clear A240
          have H' := Aside0.mk H
          clear H
          have hnb25 := NB216_217.out
          have hnc25 := NB217_216.out
          have hcz26_0 : wc.cell? ⟨gb216, 0, none⟩ = some (.int .i64 a0_0) := (blk_cell BK216.out 0).trans rfl
          have hcz26_1 : wc.cell? ⟨gb216, 1, none⟩ = some (.slice A0_1 l0_1.length c0_1) := (blk_cell BK216.out 1).trans rfl
          have hfz26_0 := blk_frozen BK216.out 0
          have hfz26_1 := blk_frozen BK216.out 1
          go_wp2_with (first | ((with_reducible refine gate_callee (f := 69) rfl ?_); refine goesL_ (some 36) rfl rfl Tryd.func69 (by kernel_rfl) rfl #[.agg #[.int .i64 a0_0, .slice A0_1 l0_1.length c0_1]] rfl (by (try simp only [List.map_toArray, List.map_cons, List.map_nil]); first | done | rfl | (simp only [List.length_drop, List.length_take]; rfl)) ?_; (with_reducible refine (linear_same.calls kj5 a0_0 _ _ l0_1 t219 t220 _ ?side1 ?side2 A24.out).mono ?_); (case side1 => repeat (first | exact (Kd.C_below HR0_1.out HB.out) | (with_reducible refine Kd.C_alloc ?_ _) | (with_reducible refine Kd.C_drewN ?_ _) | (with_reducible refine Kd.C_drew ?_))); (case side2 => exact HC0_1.out); rintro e w27 ⟨v221, rfl, ho0, hb⟩; refine ⟨_, rfl, ?_⟩; have n0_ := Aside0.mk (Kd.S_lower ho0 (below_size (by repeat (first | (with_reducible first | exact HB.out | apply below_alloc | apply pw_below_drewN | apply below_drew1 | refine below_set ?_ GE216.out | refine below_set ?_ GE217.out) | exact HB.out)))); have n1_ := Aside0.mk (blk_below (g := gb216) (o := .cells #[.int .i64 a0_0, .slice A0_1 l0_1.length c0_1] 24 (0, 0)) (by (with_reducible repeat (first | refine blk_drewN ?_ _ | refine blk_drew ?_ | refine blk_alloc ?_ _)); exact BK216.out) hb); have n2_ := Aside0.mk (blk_below (g := gb217) (o := .cells #[.int .i64 0, .slice none 0 0] 24 (0, 0)) (by (with_reducible repeat (first | refine blk_drewN ?_ _ | refine blk_drew ?_ | refine blk_alloc ?_ _)); exact BK217.out) hb); have n3_ := Aside0.mk (below_step (by repeat (first | (with_reducible first | exact HB.out | apply below_alloc | apply pw_below_drewN | apply below_drew1 | refine below_set ?_ GE216.out | refine below_set ?_ GE217.out) | exact HB.out)) hb); clear BK216; clear BK217; clear HB; have HO222 := n0_; have BK216 := n1_; have BK217 := n2_; have HB := n3_; clear n0_ n1_ n2_ n3_; (try clear hb); (try clear hb2); (try clear hk); (try clear hi); (try clear ho0)) | ((with_reducible refine gate_dst (N := 9) rfl ?_); refine box_event ?hg (N := 9) ?hd (cs := #[.int .i64 0, .slice none 0 0]) (t := 24) ?hr ?_; (case hd => rfl); (case hg => rfl); (case hr => first | (go_simp; done) | (go_simp; rfl)); intro gb223 hg w28 hbox hb; have n0_ := Aside0.mk (Kd.S_below (by (with_reducible repeat (first | apply Kd.S_alloc | apply Kd.S_drewN | apply Kd.S_drew)); exact HO222.out) hb); have n1_ := Aside0.mk (blk_below (g := gb216) (o := .cells #[.int .i64 a0_0, .slice A0_1 l0_1.length c0_1] 24 (0, 0)) (by (with_reducible repeat (first | refine blk_drewN ?_ _ | refine blk_drew ?_ | refine blk_alloc ?_ _)); exact BK216.out) hb); have n2_ := Aside0.mk (blk_below (g := gb217) (o := .cells #[.int .i64 0, .slice none 0 0] 24 (0, 0)) (by (with_reducible repeat (first | refine blk_drewN ?_ _ | refine blk_drew ?_ | refine blk_alloc ?_ _)); exact BK217.out) hb); have n3_ := Aside0.mk (below_step (by repeat (first | (with_reducible first | exact HB.out | apply below_alloc | apply pw_below_drewN | apply below_drew1 | refine below_set ?_ GE216.out | refine below_set ?_ GE217.out) | exact HB.out)) hb); have n4_ := Aside0.mk (hbox); have n5_ := Aside0.mk ((by rw [hg]; exact (below_size (by repeat (first | (with_reducible first | exact HB.out | apply below_alloc | apply pw_below_drewN | apply below_drew1 | refine below_set ?_ GE216.out | refine below_set ?_ GE217.out) | exact HB.out))) : w.heap.size ≤ gb223)); have n6_ := Aside0.mk ((by rw [hg]; exact (below_size (by repeat (first | (with_reducible first | exact HB.out | apply below_alloc | apply pw_below_drewN | apply below_drew1 | refine below_set ?_ GE216.out | refine below_set ?_ GE217.out) | exact HB.out))) : w.heap.size ≤ gb223)); have n7_ := Aside0.mk ((by rw [hg]; exact Nat.ne_of_lt (blk_lt (g := gb216) (o := .cells #[.int .i64 a0_0, .slice A0_1 l0_1.length c0_1] 24 (0, 0)) (by (with_reducible repeat (first | refine blk_drewN ?_ _ | refine blk_drew ?_ | refine blk_alloc ?_ _)); exact BK216.out)) : gb216 ≠ gb223)); have n8_ := Aside0.mk ((by rw [hg]; exact Nat.ne_of_gt (blk_lt (g := gb216) (o := .cells #[.int .i64 a0_0, .slice A0_1 l0_1.length c0_1] 24 (0, 0)) (by (with_reducible repeat (first | refine blk_drewN ?_ _ | refine blk_drew ?_ | refine blk_alloc ?_ _)); exact BK216.out)) : gb223 ≠ gb216)); have n9_ := Aside0.mk ((by rw [hg]; exact Nat.ne_of_lt (blk_lt (g := gb217) (o := .cells #[.int .i64 0, .slice none 0 0] 24 (0, 0)) (by (with_reducible repeat (first | refine blk_drewN ?_ _ | refine blk_drew ?_ | refine blk_alloc ?_ _)); exact BK217.out)) : gb217 ≠ gb223)); have n10_ := Aside0.mk ((by rw [hg]; exact Nat.ne_of_gt (blk_lt (g := gb217) (o := .cells #[.int .i64 0, .slice none 0 0] 24 (0, 0)) (by (with_reducible repeat (first | refine blk_drewN ?_ _ | refine blk_drew ?_ | refine blk_alloc ?_ _)); exact BK217.out)) : gb223 ≠ gb217)); clear HO222; clear BK216; clear BK217; clear HB; have HO222 := n0_; have BK216 := n1_; have BK217 := n2_; have HB := n3_; have BK223 := n4_; have GW223 := n5_; have GE223 := n6_; have NB216_223 := n7_; have NB223_216 := n8_; have NB217_223 := n9_; have NB223_217 := n10_; clear n0_ n1_ n2_ n3_ n4_ n5_ n6_ n7_ n8_ n9_ n10_; clear hb hbox hg; have hnb29 := NB223_216.out; have hnc29 := NB216_223.out; have hnb30 := NB223_217.out; have hnc30 := NB217_223.out; have hcz31_0 : w28.cell? ⟨gb223, 0, none⟩ = some (.int .i64 0) := (blk_cell BK223.out 0).trans rfl; have hcz31_1 : w28.cell? ⟨gb223, 1, none⟩ = some (.slice none 0 0) := (blk_cell BK223.out 1).trans rfl; have hfz31_0 := blk_frozen BK223.out 0; have hfz31_1 := blk_frozen BK223.out 1; obtain ⟨Ao32, co32, eo32⟩ := Kd.S_slice HO222.out; subst eo32))
          generalize hn220_ : t220.length = n220 at H' HO222 ⊢
          have HN220_ := Aside0.mk hn220_
          clear hn220_
          go_loopg [40] kj5 (fun kq v40 w' => ∃ (x40_2 : Int) (x218000_2 : Int) (xl_ : List S33), v40 = .int .i64 x40_2 ∧ Aside0 (linear_Substitute.l0 kq a1 a2 (n220 : Int) x40_2 t219 xl_ = some (r1, r2, r3)) ∧ Aside0 (kq ≤ kj5) ∧ Aside0 (Kd.S k33 33 w' w.heap.size (fun _ => True) (.slice Ao32 n220 co32) xl_) ∧ Aside0 (w'.heap[gb216]? = some (.cells #[.int .i64 a0_0, (.slice A0_1 l0_1.length c0_1)] 24 (0, 0))) ∧ Aside0 (w'.heap[gb217]? = some (.cells #[.int .i64 x218000_2, (.slice none 0 0)] 24 (0, 0))) ∧ Aside0 (w'.heap[gb223]? = some (.cells #[.int .i64 t219, (.slice Ao32 n220 co32)] 24 (0, 0))) ∧ Aside0 (Below w.heap.size w w'))
          case atStart => exact ⟨(0), (0), (t220), (by first | rfl | (simp; done) | (simp [*]; done)), H', ⟨Nat.le_refl _⟩, ⟨by (with_reducible repeat (first | apply Kd.S_alloc | apply Kd.S_drewN | apply Kd.S_drew)); exact Kd.S_mono (Kd.S_far (p := ⟨gb223, 1, none⟩) (Kd.S_far (p := ⟨gb223, 0, none⟩) (Kd.S_types HO222.out BK223.out (by decide)) (fun _ hk => hk.2) (.int .i64 t219)) (fun _ hk => hk.2) (.slice Ao32 n220 co32)) (fun _ hk => trivial)⟩, ⟨by (with_reducible repeat (first | refine blk_drewN ?_ _ | refine blk_drew ?_ | refine blk_alloc ?_ _)); refine blk_far ?_ NB216_223.out _; (with_reducible repeat (first | refine blk_drewN ?_ _ | refine blk_drew ?_ | refine blk_alloc ?_ _)); refine blk_far ?_ NB216_223.out _; (with_reducible repeat (first | refine blk_drewN ?_ _ | refine blk_drew ?_ | refine blk_alloc ?_ _)); exact BK216.out⟩, ⟨by (with_reducible repeat (first | refine blk_drewN ?_ _ | refine blk_drew ?_ | refine blk_alloc ?_ _)); refine blk_far ?_ NB217_223.out _; (with_reducible repeat (first | refine blk_drewN ?_ _ | refine blk_drew ?_ | refine blk_alloc ?_ _)); refine blk_far ?_ NB217_223.out _; (with_reducible repeat (first | refine blk_drewN ?_ _ | refine blk_drew ?_ | refine blk_alloc ?_ _)); exact BK217.out⟩, ⟨by (with_reducible repeat (first | refine blk_drewN ?_ _ | refine blk_drew ?_ | refine blk_alloc ?_ _)); refine blk_put (cs := #[.int .i64 t219, .slice none 0 0]) ?_ 1 _ rfl; (with_reducible repeat (first | refine blk_drewN ?_ _ | refine blk_drew ?_ | refine blk_alloc ?_ _)); refine blk_put (cs := #[.int .i64 0, .slice none 0 0]) ?_ 0 _ rfl; (with_reducible repeat (first | refine blk_drewN ?_ _ | refine blk_drew ?_ | refine blk_alloc ?_ _)); exact BK223.out⟩, ⟨by repeat (first | (with_reducible first | exact HB.out | apply below_alloc | apply pw_below_drewN | apply below_drew1 | refine below_set ?_ GE216.out | refine below_set ?_ GE217.out | refine below_set ?_ GE223.out) | exact HB.out)⟩⟩
          case round =>
            clear H'
            try clear c1
            try clear c2
            try clear p2
            try clear c3
            try clear c4
            try clear c5
            try clear c5b0
            try clear c5b1
            try clear c6
            try clear c9
            try clear c12
            try clear c12b0
            try clear c13
            try clear c13b0
            try clear c14
            try clear c16
            try clear c16b0
            try clear c17
            try clear c18
            try clear c19
            try clear c21
            try clear c22
            try clear c25
            try clear c29
            try clear c30
            try clear hcz10_0
            try clear hcz10_1
            try clear hcz15_0
            try clear hcz15_1
            try clear hcz18_0
            try clear hcz18_1
            try clear hcz20_0
            try clear hcz20_1
            try clear hcz23_0
            try clear hcz23_1
            try clear hcz26_0
            try clear hcz26_1
            try clear hcz31_0
            try clear hcz31_1
            try clear hfz10_0
            try clear hfz10_1
            try clear hfz15_0
            try clear hfz15_1
            try clear hfz18_0
            try clear hfz18_1
            try clear hfz20_0
            try clear hfz20_1
            try clear hfz23_0
            try clear hfz23_1
            try clear hfz26_0
            try clear hfz26_1
            try clear hfz31_0
            try clear hfz31_1
            try clear p2
            obtain ⟨x40_2, x218000_2, t220, rfl, HA, HK2, HO_224001, BK216, BK217, BK223, HB⟩ := hrel
            obtain rfl := (Kd.S_reads' HO_224001.out).1
            cases gk with
            | zero => exact absurd HA.out (by simp [linear_Substitute.l0])
            | succ k2 =>
              have H := HA.out
              clear HA
              simp only [linear_Substitute.l0] at H
              by_cases c33 : x40_2 < (t220.length : Int)
              · rw [if_pos c33] at H
                have c33b0 : decide (x40_2 < (t220.length : Int)) = true := decide_eq_true c33
                clear c33
                by_cases c34 : 0 ≤ x40_2
                · rw [if_pos c34] at H
                  have c34b0 : decide (0 ≤ x40_2) = true := decide_eq_true c34
                  clear c34
                  by_cases c35 : x40_2 < (t220.length : Int)
                  · rw [if_pos c35] at H
                    have c35b0 : decide (x40_2 < (t220.length : Int)) = true := decide_eq_true c35
                    clear c35
                    by_cases c36 : 0 ≤ a1
                    · rw [if_pos c36] at H
                      have c36b0 : decide (0 ≤ a1) = true := decide_eq_true c36
                      clear c36
                      by_cases c37 : a1 < (((rd_T33 t220 x40_2).f0).length : Int)
                      · rw [if_pos c37] at H
                        have c37b0 : decide (a1 < (((rd_T33 t220 x40_2).f0).length : Int)) = true := decide_eq_true c37
                        clear c37
                        obtain ⟨y228, hy228⟩ : ∃ y_ : List (S33), y_ = (t220.set (x40_2 : Int).toNat (⟨(rd_T33 t220 x40_2).f0, wrap64 (((rd_T33 t220 x40_2).f1) + (wrap64 ((rd ((rd_T33 t220 x40_2).f0) a1) * a2)))⟩ : S33)) := ⟨_, rfl⟩
                        replace H : (if a1 < (((rd_T33 y228 x40_2).f0).length : Int) then ((some (y228.set (x40_2 : Int).toNat (⟨(((rd_T33 y228 x40_2).f0).set (a1 : Int).toNat 0), (rd_T33 y228 x40_2).f1⟩ : S33) : List (S33))).bind fun y232 => ((linear_within.f ((rd_T33 y232 x40_2).f1)).bind fun t234 => (if t234 = true then (linear_Substitute.l0 k2 a1 a2 (t220.length : Int) (wrap64 (x40_2 + 1)) t219 y232) else (some (0, ([] : List (S33)), 4))))) else (none)) = some (r1, r2, r3) := by first | (rw [hy228]; with_reducible exact H) | (have H2_ := (Option.bind_some _ _).symm.trans H; rw [hy228]; with_reducible exact H2_) | (have H2_ := (Option.bind_some _ _).symm.trans H; with_reducible exact H2_) | with_reducible exact H | (rw [hy228]; exact H) | exact H
                        have Ny228 := Aside0.mk hy228
                        clear hy228
                        by_cases c39 : a1 < (((rd_T33 y228 x40_2).f0).length : Int)
                        · rw [if_pos c39] at H
                          have c39b0 : decide (a1 < (((rd_T33 y228 x40_2).f0).length : Int)) = true := decide_eq_true c39
                          clear c39
                          obtain ⟨y230, hy230⟩ : ∃ y_ : List Int, y_ = (((rd_T33 y228 x40_2).f0).set (a1 : Int).toNat 0) := ⟨_, rfl⟩
                          replace H : ((some (y228.set (x40_2 : Int).toNat (⟨y230, (rd_T33 y228 x40_2).f1⟩ : S33) : List (S33))).bind fun y232 => ((linear_within.f ((rd_T33 y232 x40_2).f1)).bind fun t234 => (if t234 = true then (linear_Substitute.l0 k2 a1 a2 (t220.length : Int) (wrap64 (x40_2 + 1)) t219 y232) else (some (0, ([] : List (S33)), 4))))) = some (r1, r2, r3) := by first | (rw [hy230]; with_reducible exact H) | (have H2_ := (Option.bind_some _ _).symm.trans H; rw [hy230]; with_reducible exact H2_) | (have H2_ := (Option.bind_some _ _).symm.trans H; with_reducible exact H2_) | with_reducible exact H | (rw [hy230]; exact H) | exact H
                          have Ny230 := Aside0.mk hy230
                          clear hy230
                          obtain ⟨y232, hy232⟩ : ∃ y_ : List (S33), y_ = (y228.set (x40_2 : Int).toNat (⟨y230, (rd_T33 y228 x40_2).f1⟩ : S33)) := ⟨_, rfl⟩
                          replace H : ((linear_within.f ((rd_T33 y232 x40_2).f1)).bind fun t234 => (if t234 = true then (linear_Substitute.l0 k2 a1 a2 (t220.length : Int) (wrap64 (x40_2 + 1)) t219 y232) else (some (0, ([] : List (S33)), 4)))) = some (r1, r2, r3) := by first | (rw [hy232]; with_reducible exact H) | (have H2_ := (Option.bind_some _ _).symm.trans H; rw [hy232]; with_reducible exact H2_) | (have H2_ := (Option.bind_some _ _).symm.trans H; with_reducible exact H2_) | with_reducible exact H | (rw [hy232]; exact H) | exact H
                          have Ny232 := Aside0.mk hy232
                          clear hy232
                          replace H := Option.bind_eq_some_iff.mp H
                          obtain ⟨t234, A410, H⟩ := H
                          replace H : (if t234 = true then (linear_Substitute.l0 k2 a1 a2 (t220.length : Int) (wrap64 (x40_2 + 1)) t219 y232) else (some (0, ([] : List (S33)), 4))) = some (r1, r2, r3) := H
                          have A41 := Aside0.mk A410
                          clear A410
                          by_cases c42 : t234 = true
                          · subst c42
                            have H1 : (linear_Substitute.l0 k2 a1 a2 (t220.length : Int) (wrap64 (x40_2 + 1)) t219 y232) = some (r1, r2, r3) := by rw [if_pos rfl] at H; exact H
                            clear H
                            have H := H1
                            clear H1
                            have H' := Aside0.mk H
                            clear H
                            have hnb43 := NB223_216.out
                            have hnc43 := NB216_223.out
                            have hnb44 := NB223_217.out
                            have hnc44 := NB217_223.out
                            have hcz45_0 : wr.cell? ⟨gb223, 0, none⟩ = some (.int .i64 t219) := (blk_cell BK223.out 0).trans rfl
                            have hcz45_1 : wr.cell? ⟨gb223, 1, none⟩ = some (.slice Ao32 t220.length co32) := (blk_cell BK223.out 1).trans rfl
                            have hfz45_0 := blk_frozen BK223.out 0
                            have hfz45_1 := blk_frozen BK223.out 1
                            have p224 : 0 ≤ (x40_2 : Int) := of_decide_eq_true (by first | (with_reducible assumption) | assumption)
                            have q224 : x40_2 < (t220.length : Int) := of_decide_eq_true (by first | (with_reducible assumption) | assumption)
                            obtain ⟨ad224, A224_0, c224_0, e224, hx224_0, hx224_1, hl224_0, hi224_0⟩ := at_T33 (Kd.S_reads' HO_224001.out).2.2 x40_2 p224 q224
                            cases e224
                            obtain ⟨ce224, hce224, hMe224, hcc224⟩ := Kd.S_get HO_224001.out z33 x40_2 p224 (by first | exact q224 | exact of_decide_eq_true (by first | (with_reducible assumption) | assumption) | (have e_ := (Kd.S_reads' HO_224001.out).1; omega))
                            obtain ⟨ve224_0, rfl, ge224_0⟩ := k33_openM hMe224
                            have hv224_0 := hcc224 0 _ rfl
                            rw [Nat.add_zero] at hv224_0
                            replace hv224_0 := Option.some.inj (hv224_0.symm.trans hx224_0)
                            rw [hv224_0] at ge224_0
                            have HL224_0 := Aside0.mk (show Kd.R (Kd.int .i64) 3 _ _ _ _ ((rd_T33 t220 x40_2).f0) from ge224_0)
                            clear hv224_0 ge224_0
                            have HX224_0 := Aside0.mk hx224_0
                            clear hcc224 hce224
                            have HR224_0 := Aside0.mk hi224_0
                            have HC224_0 := Aside0.mk hl224_0
                            clear hi224_0 hl224_0
                            replace p224 := eq_true p224
                            replace q224 := eq_true q224
                            try go_wp2
                            have n0_ := Aside0.mk (Kd.S_drew HO_224001.out)
                            have n1_ := Aside0.mk (Kd.R_drew HL224_0.out)
                            have n2_ := Aside0.mk (blk_drew BK216.out)
                            have n3_ := Aside0.mk (blk_drew BK217.out)
                            have n4_ := Aside0.mk (blk_drew BK223.out)
                            have n5_ := Aside0.mk (Kd.C_drew HR224_0.out)
                            have n6_ := Aside0.mk (below_drew1 HB.out)
                            clear HO_224001
                            clear HL224_0
                            clear BK216
                            clear BK217
                            clear BK223
                            clear HR224_0
                            clear HB
                            have HO_224001 := n0_
                            have HL224_0 := n1_
                            have BK216 := n2_
                            have BK217 := n3_
                            have BK223 := n4_
                            have HR224_0 := n5_
                            have HB := n6_
                            clear n0_ n1_ n2_ n3_ n4_ n5_ n6_
                            have p225 : 0 ≤ (x40_2 : Int) := of_decide_eq_true (by first | (with_reducible assumption) | assumption)
                            have q225 : x40_2 < (t220.length : Int) := of_decide_eq_true (by first | (with_reducible assumption) | assumption)
                            obtain ⟨ad225, A225_0, c225_0, e225, hx225_0, hx225_1, hl225_0, hi225_0⟩ := at_T33 (Kd.S_reads' HO_224001.out).2.2 x40_2 p225 q225
                            obtain rfl : ad224 = ad225 := (by injection e225)
                            obtain ⟨ce225, hce225, hMe225, hcc225⟩ := Kd.S_get HO_224001.out z33 x40_2 p225 (by first | exact q225 | exact of_decide_eq_true (by first | (with_reducible assumption) | assumption) | (have e_ := (Kd.S_reads' HO_224001.out).1; omega))
                            obtain ⟨ve225_0, rfl, ge225_0⟩ := k33_openM hMe225
                            have hv225_0 := hcc225 0 _ rfl
                            rw [Nat.add_zero] at hv225_0
                            replace hv225_0 := Option.some.inj (hv225_0.symm.trans hx225_0)
                            rw [hv225_0] at ge225_0
                            have HL225_0 := Aside0.mk (show Kd.R (Kd.int .i64) 3 _ _ _ _ ((rd_T33 t220 x40_2).f0) from ge225_0)
                            clear hv225_0 ge225_0
                            have HX225_0 := Aside0.mk hx225_0
                            clear hcc225 hce225
                            have HR225_0 := Aside0.mk hi225_0
                            have HC225_0 := Aside0.mk hl225_0
                            clear hi225_0 hl225_0
                            replace p225 := eq_true p225
                            replace q225 := eq_true q225
                            have p226 : 0 ≤ (x40_2 : Int) := of_decide_eq_true (by first | (with_reducible assumption) | assumption)
                            have q226 : x40_2 < (t220.length : Int) := of_decide_eq_true (by first | (with_reducible assumption) | assumption)
                            obtain ⟨ad226, A226_0, c226_0, e226, hx226_0, hx226_1, hl226_0, hi226_0⟩ := at_T33 (Kd.S_reads' HO_224001.out).2.2 x40_2 p226 q226
                            obtain rfl : ad224 = ad226 := (by injection e226)
                            obtain ⟨ce226, hce226, hMe226, hcc226⟩ := Kd.S_get HO_224001.out z33 x40_2 p226 (by first | exact q226 | exact of_decide_eq_true (by first | (with_reducible assumption) | assumption) | (have e_ := (Kd.S_reads' HO_224001.out).1; omega))
                            obtain ⟨ve226_0, rfl, ge226_0⟩ := k33_openM hMe226
                            have hv226_0 := hcc226 0 _ rfl
                            rw [Nat.add_zero] at hv226_0
                            replace hv226_0 := Option.some.inj (hv226_0.symm.trans hx226_0)
                            rw [hv226_0] at ge226_0
                            have HL226_0 := Aside0.mk (show Kd.R (Kd.int .i64) 3 _ _ _ _ ((rd_T33 t220 x40_2).f0) from ge226_0)
                            clear hv226_0 ge226_0
                            have HX226_0 := Aside0.mk hx226_0
                            clear hcc226 hce226
                            have HR226_0 := Aside0.mk hi226_0
                            have HC226_0 := Aside0.mk hl226_0
                            clear hi226_0 hl226_0
                            replace p226 := eq_true p226
                            replace q226 := eq_true q226
                            have ea_ := Option.some.inj (hx225_0.symm.trans hx226_0)
                            injection ea_ with ea_ en_ ec_
                            subst ea_
                            subst ec_
                            clear en_
                            have p227 : 0 ≤ (a1 : Int) := of_decide_eq_true (by first | (with_reducible assumption) | assumption)
                            have q227 : a1 < (((rd_T33 t220 x40_2).f0).length : Int) := of_decide_eq_true (by first | (with_reducible assumption) | assumption)
                            obtain ⟨ad227, e227, hx227_0⟩ := Kd.at_int (by repeat (first | (with_reducible exact HR226_0.out) | (with_reducible refine Kd.C_alloc ?_ _) | (with_reducible refine Kd.C_drewN ?_ _) | (with_reducible refine Kd.C_drew ?_) | exact HR226_0.out)) a1 p227 q227
                            cases e227
                            replace p227 := eq_true p227
                            replace q227 := eq_true q227
                            have p38 : 0 ≤ (x40_2 : Int) := of_decide_eq_true (by first | (with_reducible assumption) | assumption)
                            have q38 : (x40_2 : Int) < ((t220.length : Int) : Int) := of_decide_eq_true (by first | (with_reducible assumption) | assumption)
                            obtain ⟨go38, co38, eo38, gb38, gl38, cl38, HG38⟩ := Kd.S_form HO_224001.out (by omega)
                            (first | cases eo38 | (injection eo38 with ea_ en_ ec_; (first | subst ea_ | (injection ea_ with ea_; subst ea_)); subst ec_; clear en_))
                            have GB38 := Aside0.mk gb38
                            have GG38 := Aside0.mk HG38
                            clear gb38 gl38 HG38
                            (first | simp only [add_plain] at hx224_0 | skip)
                            (first | simp only [add_plain] at hx224_1 | skip)
                            (first | simp only [add_plain] at hx225_0 | skip)
                            (first | simp only [add_plain] at hx225_1 | skip)
                            (first | simp only [add_plain] at hx226_0 | skip)
                            (first | simp only [add_plain] at hx226_1 | skip)
                            obtain ⟨_, ce38, hcl38, hM38, hcc38, hfr38, _, _⟩ := Kd.S_elem HO_224001.out z33 (x40_2 : Int) p38 q38
                            obtain ⟨ve38_0, rfl, ge38_0⟩ := k33_openM hM38
                            have hx38_0 : World.cell? _ ⟨go38, (x40_2 : Int).toNat * 2, none⟩ = some (ve38_0) := hcc38 0 _ rfl
                            have hx38_1 : World.cell? _ ⟨go38, (x40_2 : Int).toNat * 2 + 1, none⟩ = some (.int .i64 ((rd_T33 t220 x40_2).f1)) := hcc38 1 _ rfl
                            have hf38_0 : World.frozen? _ ⟨go38, (x40_2 : Int).toNat * 2, none⟩ = false := hfr38 0
                            have hf38_1 : World.frozen? _ ⟨go38, (x40_2 : Int).toNat * 2 + 1, none⟩ = false := hfr38 1
                            clear hcl38 hcc38 hfr38 hM38
                            replace p38 := eq_true p38
                            replace q38 := eq_true q38
                            have HX47 := Aside0.mk (show Kd.S k33 33 _ w.heap.size (fun k_ => ((fun _ => True)) k_ ∧ ¬ (fun _ => False) k_) (.slice (some ⟨go38, 0, none⟩) t220.length co32) t220 from (by exact Kd.S_mono HO_224001.out (fun k_ hk => ⟨trivial, fun e_ => e_⟩)))
                            obtain ⟨oki47, ce47, hcl47, hM47, hcc47, hfr47, hoki47, hH47⟩ := Kd.S_elem HX47.out z33 (x40_2 : Int) (of_decide_eq_true (by first | (with_reducible assumption) | assumption)) (by have h_ : (x40_2 : Int) < ((t220.length : Int) : Int) := of_decide_eq_true (by first | (with_reducible assumption) | assumption); first | exact h_ | (have e_ := (Kd.S_reads' HO_224001.out).1; omega) | simpa using h_)
                            obtain ⟨ve47_0, rfl, ge47_0⟩ := k33_openM hM47
                            have HP47 := (Kd.S_seg hH47 (of_decide_eq_true (by first | (with_reducible assumption) | assumption)) (by have h_ : (x40_2 : Int) < ((t220.length : Int) : Int) := of_decide_eq_true (by first | (with_reducible assumption) | assumption); first | exact h_ | (have e_ := (Kd.S_reads' HO_224001.out).1; omega) | simpa using h_) (seg := [.int .i64 (wrap64 (((rd_T33 t220 x40_2).f1) + (wrap64 ((rd ((rd_T33 t220 x40_2).f0) a1) * a2))))]) (j := 1) (show 2 ≤ 2 from by decide) (x' := (⟨(rd_T33 t220 x40_2).f0, wrap64 (((rd_T33 t220 x40_2).f1) + (wrap64 ((rd ((rd_T33 t220 x40_2).f0) a1) * a2)))⟩ : S33)) (k33_mkM _ _ _ (⟨(rd_T33 t220 x40_2).f0, wrap64 (((rd_T33 t220 x40_2).f1) + (wrap64 ((rd ((rd_T33 t220 x40_2).f0) a1) * a2)))⟩ : S33) ge47_0) (fun _ hk => Or.inl hk) (fun _ hk => hk.elim)).1
                            rw [← Ny228.out] at HP47
                            have HQ47 := Aside0.mk HP47
                            clear hcl47 hcc47 hfr47 hM47 HP47
                            refine start_ (n := 17) (S := fun w' => w'.cell? ⟨go38, ((x40_2).toNat * 2), none⟩ = some (.slice (some ad227) ((rd_T33 t220 x40_2).f0).length c225_0) ∧ w'.cell? ⟨go38, ((x40_2).toNat * 2) + 1, none⟩ = some (.int .i64 ((rd_T33 t220 x40_2).f1)) ∧ w'.cell? ⟨go38, ((x40_2).toNat * 2), none⟩ = some (.slice (some ad227) ((rd_T33 t220 x40_2).f0).length c225_0) ∧ w'.cell? ⟨go38, ((x40_2).toNat * 2) + 1, none⟩ = some (.int .i64 ((rd_T33 t220 x40_2).f1)) ∧ w'.cell? (ad227.add (a1).toNat) = some (.int .i64 (rd ((rd_T33 t220 x40_2).f0) a1))) (ds := [16]) #[false, false, false, false, false, false, false, false, false, false, false, false, false, false, false, false, false] (by kernel_rfl) rfl rfl ⟨hx225_0, hx225_1, hx226_0, hx226_1, hx227_0⟩ (fun hHeld => ?_); refine with_tabW linear_Substitute.tab11 linear_Substitute.bits11 (fun HT_ HW_ => ?_)
                            generalize wr.drew = w46 at HO_224001 HL224_0 BK216 BK217 BK223 HR224_0 HB GG38 HL225_0 HL226_0 HQ47 HR225_0 HR226_0 HX225_0 HX226_0 hf38_0 hf38_1 hx224_0 hx224_1 hx225_0 hx225_1 hx226_0 hx226_1 hx227_0 hx38_0 hx38_1 hHeld ⊢
                            refine pure_ (i := 0) (N := some 47) (v := ?_) (a' := ?_) #[true, false, false, false, false, false, false, false, false, false, false, false, false, false, false, false, false] rfl rfl (any_of HT_.out (by kernel_rfl)) (fun _ _ _ h => h) (Or.inl ⟨by rfl, ?_⟩) ?_ ?_
                            rotate_left
                            · intro w'
                              go_simp
                              with_reducible rfl
                            rotate_left
                            · simp only [Act.put, List.setIfInBounds_toArray, List.set_cons_zero, List.set_cons_succ, i64_w, i32_w]
                              rfl
                            refine pure_ (i := 1) (N := some 48) (v := ?_) (a' := ?_) #[true, true, false, false, false, false, false, false, false, false, false, false, false, false, false, false, false] rfl rfl (any_of HT_.out (by kernel_rfl)) (fun _ _ _ h => h) (Or.inl ⟨by rfl, ?_⟩) ?_ ?_
                            rotate_left
                            · intro w'
                              go_simp
                              with_reducible rfl
                            rotate_left
                            · simp only [Act.put, List.setIfInBounds_toArray, List.set_cons_zero, List.set_cons_succ, i64_w, i32_w]
                              rfl
                            refine pure_ (i := 2) (N := some 49) (v := ?_) (a' := ?_) #[true, true, true, false, false, false, false, false, false, false, false, false, false, false, false, false, false] rfl rfl (any_of HT_.out (by kernel_rfl)) (fun _ _ _ h => h) (Or.inl ⟨by rfl, ?_⟩) ?_ ?_
                            rotate_left
                            · intro w'
                              go_simp
                              with_reducible rfl
                            rotate_left
                            · simp only [Act.put, List.setIfInBounds_toArray, List.set_cons_zero, List.set_cons_succ, i64_w, i32_w]
                              rfl
                            refine pure_ (i := 4) (N := some 51) (v := ?_) (a' := ?_) #[true, true, true, false, true, false, false, false, false, false, false, false, false, false, false, false, false] rfl rfl (any_of HT_.out (by kernel_rfl)) (fun _ _ _ h => h) (Or.inl ⟨by rfl, ?_⟩) ?_ ?_
                            rotate_left
                            · intro w'
                              go_simp
                              with_reducible rfl
                            rotate_left
                            · simp only [Act.put, List.setIfInBounds_toArray, List.set_cons_zero, List.set_cons_succ, i64_w, i32_w]
                              rfl
                            refine pure_ (i := 5) (N := some 52) (v := ?_) (a' := ?_) #[true, true, true, false, true, true, false, false, false, false, false, false, false, false, false, false, false] rfl rfl (any_of HT_.out (by kernel_rfl)) (fun _ _ _ h => h) (Or.inl ⟨by rfl, ?_⟩) ?_ ?_
                            rotate_left
                            · intro w'
                              go_simp
                              with_reducible rfl
                            rotate_left
                            · simp only [Act.put, List.setIfInBounds_toArray, List.set_cons_zero, List.set_cons_succ, i64_w, i32_w]
                              rfl
                            refine pure_ (i := 6) (N := some 53) (v := ?_) (a' := ?_) #[true, true, true, false, true, true, true, false, false, false, false, false, false, false, false, false, false] rfl rfl (any_of HT_.out (by kernel_rfl)) (fun _ _ _ h => h) (Or.inl ⟨by rfl, ?_⟩) ?_ ?_
                            rotate_left
                            · intro w'
                              go_simp
                              with_reducible rfl
                            rotate_left
                            · simp only [Act.put, List.setIfInBounds_toArray, List.set_cons_zero, List.set_cons_succ, i64_w, i32_w]
                              rfl
                            refine pure_ (i := 8) (N := some 55) (v := ?_) (a' := ?_) #[true, true, true, false, true, true, true, false, true, false, false, false, false, false, false, false, false] rfl rfl (any_of HT_.out (by kernel_rfl)) (fun _ _ _ h => h) (Or.inl ⟨by rfl, ?_⟩) ?_ ?_
                            rotate_left
                            · intro w'
                              go_simp
                              with_reducible rfl
                            rotate_left
                            · simp only [Act.put, List.setIfInBounds_toArray, List.set_cons_zero, List.set_cons_succ, i64_w, i32_w]
                              rfl
                            refine pure_ (i := 11) (N := some 58) (v := ?_) (a' := ?_) #[true, true, true, false, true, true, true, false, true, false, false, true, false, false, false, false, false] rfl rfl (any_of HT_.out (by kernel_rfl)) (fun _ _ _ h => h) (Or.inl ⟨by rfl, ?_⟩) ?_ ?_
                            rotate_left
                            · intro w'
                              go_simp
                              with_reducible rfl
                            rotate_left
                            · simp only [Act.put, List.setIfInBounds_toArray, List.set_cons_zero, List.set_cons_succ, i64_w, i32_w]
                              rfl
                            refine take_ (i := 3) (N := some 50) (v := ?_) (a' := ?_) #[true, true, true, true, true, true, true, false, true, false, false, true, false, false, false, false, false] rfl rfl (take_ofW HT_.out HW_.out (by kernel_rfl)) (fun _ _ _ h => h) (Or.inl ⟨by rfl, ?_⟩) hHeld ?_ ?_
                            rotate_left
                            · rintro w' ⟨s0, s1, s2, s3, s4⟩
                              go_simp
                              with_reducible rfl
                            rotate_left
                            · simp only [Act.put, List.setIfInBounds_toArray, List.set_cons_zero, List.set_cons_succ, i64_w, i32_w]
                              rfl
                            refine take_ (i := 7) (N := some 54) (v := ?_) (a' := ?_) #[true, true, true, true, true, true, true, true, true, false, false, true, false, false, false, false, false] rfl rfl (take_ofW HT_.out HW_.out (by kernel_rfl)) (fun _ _ _ h => h) (Or.inl ⟨by rfl, ?_⟩) hHeld ?_ ?_
                            rotate_left
                            · rintro w' ⟨s0, s1, s2, s3, s4⟩
                              go_simp
                              with_reducible rfl
                            rotate_left
                            · simp only [Act.put, List.setIfInBounds_toArray, List.set_cons_zero, List.set_cons_succ, i64_w, i32_w]
                              rfl
                            refine pure_ (i := 9) (N := some 56) (v := ?_) (a' := ?_) #[true, true, true, true, true, true, true, true, true, true, false, true, false, false, false, false, false] rfl rfl (any_of HT_.out (by kernel_rfl)) (fun _ _ _ h => h) (Or.inl ⟨by rfl, ?_⟩) ?_ ?_
                            rotate_left
                            · intro w'
                              go_simp
                              with_reducible rfl
                            rotate_left
                            · simp only [Act.put, List.setIfInBounds_toArray, List.set_cons_zero, List.set_cons_succ, i64_w, i32_w]
                              rfl
                            refine take_ (i := 10) (N := some 57) (v := ?_) (a' := ?_) #[true, true, true, true, true, true, true, true, true, true, true, true, false, false, false, false, false] rfl rfl (take_ofW HT_.out HW_.out (by kernel_rfl)) (fun _ _ _ h => h) (Or.inl ⟨by rfl, ?_⟩) hHeld ?_ ?_
                            rotate_left
                            · rintro w' ⟨s0, s1, s2, s3, s4⟩
                              go_simp
                              with_reducible rfl
                            rotate_left
                            · simp only [Act.put, List.setIfInBounds_toArray, List.set_cons_zero, List.set_cons_succ, i64_w, i32_w]
                              rfl
                            refine pure_ (i := 12) (N := some 59) (v := ?_) (a' := ?_) #[true, true, true, true, true, true, true, true, true, true, true, true, true, false, false, false, false] rfl rfl (any_of HT_.out (by kernel_rfl)) (fun _ _ _ h => h) (Or.inl ⟨by rfl, ?_⟩) ?_ ?_
                            rotate_left
                            · intro w'
                              go_simp
                              with_reducible rfl
                            rotate_left
                            · simp only [Act.put, List.setIfInBounds_toArray, List.set_cons_zero, List.set_cons_succ, i64_w, i32_w]
                              rfl
                            refine pure_ (i := 13) (N := some 60) (v := ?_) (a' := ?_) #[true, true, true, true, true, true, true, true, true, true, true, true, true, true, false, false, false] rfl rfl (any_of HT_.out (by kernel_rfl)) (fun _ _ _ h => h) (Or.inl ⟨by rfl, ?_⟩) ?_ ?_
                            rotate_left
                            · intro w'
                              go_simp
                              with_reducible rfl
                            rotate_left
                            · simp only [Act.put, List.setIfInBounds_toArray, List.set_cons_zero, List.set_cons_succ, i64_w, i32_w]
                              rfl
                            refine pure_ (i := 14) (N := some 61) (v := ?_) (a' := ?_) #[true, true, true, true, true, true, true, true, true, true, true, true, true, true, true, false, false] rfl rfl (any_of HT_.out (by kernel_rfl)) (fun _ _ _ h => h) (Or.inl ⟨by rfl, ?_⟩) ?_ ?_
                            rotate_left
                            · intro w'
                              go_simp
                              with_reducible rfl
                            rotate_left
                            · simp only [Act.put, List.setIfInBounds_toArray, List.set_cons_zero, List.set_cons_succ, i64_w, i32_w]
                              rfl
                            refine pure_ (i := 15) (N := some 62) (v := ?_) (a' := ?_) #[true, true, true, true, true, true, true, true, true, true, true, true, true, true, true, true, false] rfl rfl (any_of HT_.out (by kernel_rfl)) (fun _ _ _ h => h) (Or.inl ⟨by rfl, ?_⟩) ?_ ?_
                            rotate_left
                            · intro w'
                              go_simp
                              with_reducible rfl
                            rotate_left
                            · simp only [Act.put, List.setIfInBounds_toArray, List.set_cons_zero, List.set_cons_succ, i64_w, i32_w]
                              rfl
                            refine last_ (i := 16) (N := none) #[true, true, true, true, true, true, true, true, true, true, true, true, true, true, true, true, true] rfl rfl (one_of HT_.out (by kernel_rfl)) (by decide) (fun K hK => ?_)
                            refine skip_ (w1 := ?_) (by rfl) rfl ?_ ?_
                            rotate_left
                            · go_simp
                              rfl
                            refine hK.out _ _ ?_
                            clear hK K
                            refine done_ (done_of HT_.out (by kernel_rfl)) ?_
                            have n0_ : Aside0 (Kd.S k33 33 (w46.setCell ⟨go38, (x40_2 : Int).toNat * 2 + 1, none⟩ (.int .i64 (wrap64 (((rd_T33 t220 x40_2).f1) + (wrap64 ((rd ((rd_T33 t220 x40_2).f0) a1) * a2)))))) w.heap.size (fun _ => True) (.slice (some ⟨go38, 0, none⟩) t220.length co32) y228) := ⟨by (with_reducible repeat (first | apply Kd.S_alloc | apply Kd.S_drewN | apply Kd.S_drew)); exact HQ47.out⟩
                            have n1_ : Aside0 (Kd.R (Kd.int .i64) 3 (w46.setCell ⟨go38, (x40_2 : Int).toNat * 2 + 1, none⟩ (.int .i64 (wrap64 (((rd_T33 t220 x40_2).f1) + (wrap64 ((rd ((rd_T33 t220 x40_2).f0) a1) * a2)))))) w.heap.size (fun k_ => some k_ ≠ (.slice (some ⟨go38, 0, none⟩) t220.length co32 : Value).ownBlock) (.slice A224_0 ((rd_T33 t220 x40_2).f0).length c224_0) ((rd_T33 t220 x40_2).f0)) := ⟨by (with_reducible repeat (first | apply Kd.R_alloc | apply Kd.R_drewN | apply Kd.R_drew)); exact Kd.R_mono (Kd.R_far (p := ⟨go38, (x40_2 : Int).toNat * 2 + 1, none⟩) (Kd.R_types HL224_0.out GG38.out (by decide)) (fun _ hk => hk.2) (.int .i64 (wrap64 (((rd_T33 t220 x40_2).f1) + (wrap64 ((rd ((rd_T33 t220 x40_2).f0) a1) * a2)))))) (fun _ hk => hk.1.2)⟩
                            have n2_ : Aside0 (Kd.R (Kd.int .i64) 3 (w46.setCell ⟨go38, (x40_2 : Int).toNat * 2 + 1, none⟩ (.int .i64 (wrap64 (((rd_T33 t220 x40_2).f1) + (wrap64 ((rd ((rd_T33 t220 x40_2).f0) a1) * a2)))))) w.heap.size (fun k_ => some k_ ≠ (.slice (some ⟨go38, 0, none⟩) t220.length co32 : Value).ownBlock) (.slice (some ad227) ((rd_T33 t220 x40_2).f0).length c225_0) ((rd_T33 t220 x40_2).f0)) := ⟨by (with_reducible repeat (first | apply Kd.R_alloc | apply Kd.R_drewN | apply Kd.R_drew)); exact Kd.R_mono (Kd.R_far (p := ⟨go38, (x40_2 : Int).toNat * 2 + 1, none⟩) (Kd.R_types HL225_0.out GG38.out (by decide)) (fun _ hk => hk.2) (.int .i64 (wrap64 (((rd_T33 t220 x40_2).f1) + (wrap64 ((rd ((rd_T33 t220 x40_2).f0) a1) * a2)))))) (fun _ hk => hk.1.2)⟩
                            have n3_ : Aside0 (Kd.R (Kd.int .i64) 3 (w46.setCell ⟨go38, (x40_2 : Int).toNat * 2 + 1, none⟩ (.int .i64 (wrap64 (((rd_T33 t220 x40_2).f1) + (wrap64 ((rd ((rd_T33 t220 x40_2).f0) a1) * a2)))))) w.heap.size (fun k_ => some k_ ≠ (.slice (some ⟨go38, 0, none⟩) t220.length co32 : Value).ownBlock) (.slice (some ad227) ((rd_T33 t220 x40_2).f0).length c225_0) ((rd_T33 t220 x40_2).f0)) := ⟨by (with_reducible repeat (first | apply Kd.R_alloc | apply Kd.R_drewN | apply Kd.R_drew)); exact Kd.R_mono (Kd.R_far (p := ⟨go38, (x40_2 : Int).toNat * 2 + 1, none⟩) (Kd.R_types HL226_0.out GG38.out (by decide)) (fun _ hk => hk.2) (.int .i64 (wrap64 (((rd_T33 t220 x40_2).f1) + (wrap64 ((rd ((rd_T33 t220 x40_2).f0) a1) * a2)))))) (fun _ hk => hk.1.2)⟩
                            have n4_ : Aside0 ((w46.setCell ⟨go38, (x40_2 : Int).toNat * 2 + 1, none⟩ (.int .i64 (wrap64 (((rd_T33 t220 x40_2).f1) + (wrap64 ((rd ((rd_T33 t220 x40_2).f0) a1) * a2)))))).heap[gb216]? = some (.cells #[.int .i64 a0_0, .slice A0_1 l0_1.length c0_1] 24 (0, 0))) := ⟨by (with_reducible repeat (first | refine blk_drewN ?_ _ | refine blk_drew ?_ | refine blk_alloc ?_ _)); refine blk_far ?_ (by have h_ := Kd.S_ne HO_224001.out BK216.out (by decide); intro e_; exact h_ (by rw [e_]; rfl)) _; (with_reducible repeat (first | refine blk_drewN ?_ _ | refine blk_drew ?_ | refine blk_alloc ?_ _)); exact BK216.out⟩
                            have n5_ : Aside0 ((w46.setCell ⟨go38, (x40_2 : Int).toNat * 2 + 1, none⟩ (.int .i64 (wrap64 (((rd_T33 t220 x40_2).f1) + (wrap64 ((rd ((rd_T33 t220 x40_2).f0) a1) * a2)))))).heap[gb217]? = some (.cells #[.int .i64 x218000_2, .slice none 0 0] 24 (0, 0))) := ⟨by (with_reducible repeat (first | refine blk_drewN ?_ _ | refine blk_drew ?_ | refine blk_alloc ?_ _)); refine blk_far ?_ (by have h_ := Kd.S_ne HO_224001.out BK217.out (by decide); intro e_; exact h_ (by rw [e_]; rfl)) _; (with_reducible repeat (first | refine blk_drewN ?_ _ | refine blk_drew ?_ | refine blk_alloc ?_ _)); exact BK217.out⟩
                            have n6_ : Aside0 ((w46.setCell ⟨go38, (x40_2 : Int).toNat * 2 + 1, none⟩ (.int .i64 (wrap64 (((rd_T33 t220 x40_2).f1) + (wrap64 ((rd ((rd_T33 t220 x40_2).f0) a1) * a2)))))).heap[gb223]? = some (.cells #[.int .i64 t219, .slice (some ⟨go38, 0, none⟩) t220.length co32] 24 (0, 0))) := ⟨by (with_reducible repeat (first | refine blk_drewN ?_ _ | refine blk_drew ?_ | refine blk_alloc ?_ _)); refine blk_far ?_ (by have h_ := Kd.S_ne HO_224001.out BK223.out (by decide); intro e_; exact h_ (by rw [e_]; rfl)) _; (with_reducible repeat (first | refine blk_drewN ?_ _ | refine blk_drew ?_ | refine blk_alloc ?_ _)); exact BK223.out⟩
                            have n7_ : Aside0 (Below w.heap.size w (w46.setCell ⟨go38, (x40_2 : Int).toNat * 2 + 1, none⟩ (.int .i64 (wrap64 (((rd_T33 t220 x40_2).f1) + (wrap64 ((rd ((rd_T33 t220 x40_2).f0) a1) * a2))))))) := ⟨by repeat (first | (with_reducible first | exact HB.out | apply below_alloc | apply pw_below_drewN | apply below_drew1 | refine below_set ?_ GB38.out | refine below_set ?_ GE216.out | refine below_set ?_ GE217.out | refine below_set ?_ GE223.out) | exact HB.out)⟩
                            (try clear HO_224001)
                            (try clear HL224_0)
                            (try clear HL225_0)
                            (try clear HL226_0)
                            (try clear BK216)
                            (try clear BK217)
                            (try clear BK223)
                            (try clear HB)
                            generalize (w46.setCell ⟨go38, (x40_2 : Int).toNat * 2 + 1, none⟩ (.int .i64 (wrap64 (((rd_T33 t220 x40_2).f1) + (wrap64 ((rd ((rd_T33 t220 x40_2).f0) a1) * a2)))))) = w48 at n0_ n1_ n2_ n3_ n4_ n5_ n6_ n7_ ⊢
                            have HO_224001 := n0_
                            have HL224_0 := n1_
                            have HL225_0 := n2_
                            have HL226_0 := n3_
                            have BK216 := n4_
                            have BK217 := n5_
                            have BK223 := n6_
                            have HB := n7_
                            clear n0_ n1_ n2_ n3_ n4_ n5_ n6_ n7_
                            have p229 : 0 ≤ (x40_2 : Int) := of_decide_eq_true (by first | (with_reducible assumption) | assumption)
                            have q229 : x40_2 < (y228.length : Int) := (by have h_ : (x40_2 : Int) < ((t220.length : Int) : Int) := of_decide_eq_true (by first | (with_reducible assumption) | assumption); first | (have e_ := (Kd.S_reads' HO_224001.out).1; omega) | simpa only [Ny228.out, List.length_set] using h_)
                            have ql229 : ((x40_2 : Int) < ((t220.length : Int) : Int)) = True := eq_true (of_decide_eq_true (by first | (with_reducible assumption) | assumption))
                            obtain ⟨ad229, A229_0, c229_0, e229, hx229_0, hx229_1, hl229_0, hi229_0⟩ := at_T33 (Kd.S_reads' HO_224001.out).2.2 x40_2 p229 q229
                            obtain rfl : (⟨go38, 0, none⟩ : Addr) = ad229 := (by injection e229)
                            obtain ⟨ce229, hce229, hMe229, hcc229⟩ := Kd.S_get HO_224001.out z33 x40_2 p229 (by first | exact q229 | exact of_decide_eq_true (by first | (with_reducible assumption) | assumption) | (have e_ := (Kd.S_reads' HO_224001.out).1; omega))
                            obtain ⟨ve229_0, rfl, ge229_0⟩ := k33_openM hMe229
                            have hv229_0 := hcc229 0 _ rfl
                            rw [Nat.add_zero] at hv229_0
                            replace hv229_0 := Option.some.inj (hv229_0.symm.trans hx229_0)
                            rw [hv229_0] at ge229_0
                            have HL229_0 := Aside0.mk (show Kd.R (Kd.int .i64) 3 _ _ _ _ ((rd_T33 y228 x40_2).f0) from ge229_0)
                            clear hv229_0 ge229_0
                            have HX229_0 := Aside0.mk hx229_0
                            clear hcc229 hce229
                            (first | simp only [add_plain] at hx229_0 | simp only [add_at] at hx229_0 | simp only [Addr.add, Nat.zero_add] at hx229_0 | skip)
                            (first | simp only [add_plain] at hx229_1 | simp only [add_at] at hx229_1 | simp only [Addr.add, Nat.zero_add] at hx229_1 | skip)
                            have HR229_0 := Aside0.mk hi229_0
                            have HC229_0 := Aside0.mk hl229_0
                            clear hi229_0 hl229_0
                            replace p229 := eq_true p229
                            replace q229 := eq_true q229
                            have p40 : 0 ≤ (a1 : Int) := of_decide_eq_true (by first | (with_reducible assumption) | assumption)
                            have q40 : (a1 : Int) < ((((rd_T33 y228 x40_2).f0).length : Int) : Int) := of_decide_eq_true (by first | (with_reducible assumption) | assumption)
                            obtain ⟨go40, co40, eo40, gb40, gl40, cl40, HG40⟩ := Kd.R_form HL229_0.out (by omega)
                            (first | cases eo40 | (injection eo40 with ea_ en_ ec_; (first | subst ea_ | (injection ea_ with ea_; subst ea_)); subst ec_; clear en_))
                            have GB40 := Aside0.mk gb40
                            have GG40 := Aside0.mk HG40
                            clear gb40 gl40 HG40
                            obtain ⟨hx40_0, hf40_0⟩ := Kd.R_celln 0 HL229_0.out (a1 : Int) p40 q40
                            replace p40 := eq_true p40
                            replace q40 := eq_true q40
                            have hq49 : (x40_2 : Int) < (y228.length : Int) := (by have h_ : (x40_2 : Int) < ((t220.length : Int) : Int) := of_decide_eq_true (by first | (with_reducible assumption) | assumption); first | exact h_ | (have e_ := (Kd.S_reads' HO_224001.out).1; omega) | simpa only [Ny228.out, List.length_set] using h_)
                            obtain ⟨oki49, ce49, hcl49, hM49, hcc49, hok49, hbk49⟩ := Kd.S_borrow HO_224001.out z33 (x40_2 : Int) (of_decide_eq_true (by first | (with_reducible assumption) | assumption)) (by first | exact hq49 | (have e_ := (Kd.S_reads' HO_224001.out).1; have h_ := hq49; omega))
                            obtain ⟨ve49_0, rfl, ge49_0⟩ := k33_openM hM49
                            have hv49 := hcc49 0 _ rfl
                            rw [Nat.add_zero] at hv49
                            replace hv49 := Option.some.inj (hv49.symm.trans HX229_0.out)
                            subst hv49
                            clear hcc49 hcl49
                            replace ge49_0 := (show Kd.R (Kd.int .i64) 3 _ _ _ _ ((rd_T33 y228 x40_2).f0) from ge49_0)
                            have HP49 := Kd.R_putg ge49_0 (a1 : Int) 0
                            try go_wp2_with (first | ((with_reducible refine gate_store (t := 3) (p := 68) rfl ?_); refine store_event (t := 3) (p := 68) (v := ?vo_w50) (w1 := (w48.setCell ⟨go40, (a1 : Int).toNat, none⟩ (.int .i64 0))) ?hg ?ho ?hn ?hr ?_; (case ho => rfl); (case hg => rfl); (case hn => rfl); (case hr => first | (go_simp; done) | (go_simp; rfl)); intro w50 hw; have hg : w48.grownBy w50 (some go40) := (by rw [hw]; exact HP49.2); have hz_ : Kd.R (Kd.int .i64) 3 w50 w.heap.size oki49 (.slice (some ⟨go40, 0, none⟩) ((rd_T33 y228 x40_2).f0).length c229_0) y230 := (by rw [hw, Ny230.out]; exact HP49.1); have hp_ : Kd.S k33 33 w50 w.heap.size (fun _ => True) (.slice (some ⟨go38, 0, none⟩) t220.length co32) y232 := (by rw [Ny232.out]; exact hbk49 hg (fun k_ e_ => by injection e_ with e_; subst e_; exact ge49_0.1 _ rfl) (k33_mkM _ _ _ (⟨y230, (rd_T33 y228 x40_2).f1⟩ : S33) hz_)); have hm_ := Kd.R_mono hz_ hok49; clear HP49 hbk49; have n0_ := Aside0.mk (hp_); have n1_ := Aside0.mk (blk_grown (g := gb216) (o := .cells #[.int .i64 a0_0, .slice A0_1 l0_1.length c0_1] 24 (0, 0)) (by (with_reducible repeat (first | refine blk_drewN ?_ _ | refine blk_drew ?_ | refine blk_alloc ?_ _)); exact BK216.out) hg (Kd.R_ne HL229_0.out BK216.out (by decide))); have n2_ := Aside0.mk (blk_grown (g := gb217) (o := .cells #[.int .i64 x218000_2, .slice none 0 0] 24 (0, 0)) (by (with_reducible repeat (first | refine blk_drewN ?_ _ | refine blk_drew ?_ | refine blk_alloc ?_ _)); exact BK217.out) hg (Kd.R_ne HL229_0.out BK217.out (by decide))); have n3_ := Aside0.mk (blk_grown (g := gb223) (o := .cells #[.int .i64 t219, .slice (some ⟨go38, 0, none⟩) t220.length co32] 24 (0, 0)) (by (with_reducible repeat (first | refine blk_drewN ?_ _ | refine blk_drew ?_ | refine blk_alloc ?_ _)); exact BK223.out) hg (Kd.R_ne HL229_0.out BK223.out (by decide))); have n4_ := Aside0.mk ((by rw [hw]; exact below_set (HB.out) GB40.out : Below w.heap.size w w50)); have n5_ := Aside0.mk (hm_); have n6_ := Aside0.mk ((Kd.R_reads' hm_).2.1); clear HO_224001; clear BK216; clear BK217; clear BK223; clear HB; clear HL224_0; clear HL225_0; clear HL226_0; clear HL229_0; have HO_224001 := n0_; have BK216 := n1_; have BK217 := n2_; have BK223 := n3_; have HB := n4_; have HL235 := n5_; have HC231 := n6_; clear n0_ n1_ n2_ n3_ n4_ n5_ n6_; clear hg hw hp_ hz_ hm_ hok49; have p233 : 0 ≤ (x40_2 : Int) := of_decide_eq_true (by first | (with_reducible assumption) | assumption); have q233 : x40_2 < (y232.length : Int) := (by have h_ : (x40_2 : Int) < ((t220.length : Int) : Int) := of_decide_eq_true (by first | (with_reducible assumption) | assumption); first | (have e_ := (Kd.S_reads' HO_224001.out).1; omega) | simpa only [Ny228.out, Ny232.out, List.length_set] using h_); have ql233 : ((x40_2 : Int) < ((t220.length : Int) : Int)) = True := eq_true (of_decide_eq_true (by first | (with_reducible assumption) | assumption)); obtain ⟨ad233, A233_0, c233_0, e233, hx233_0, hx233_1, hl233_0, hi233_0⟩ := at_T33 (Kd.S_reads' HO_224001.out).2.2 x40_2 p233 q233; obtain rfl : (⟨go38, 0, none⟩ : Addr) = ad233 := (by injection e233); obtain ⟨ce233, hce233, hMe233, hcc233⟩ := Kd.S_get HO_224001.out z33 x40_2 p233 (by first | exact q233 | exact of_decide_eq_true (by first | (with_reducible assumption) | assumption) | (have e_ := (Kd.S_reads' HO_224001.out).1; omega)); obtain ⟨ve233_0, rfl, ge233_0⟩ := k33_openM hMe233; have hv233_0 := hcc233 0 _ rfl; rw [Nat.add_zero] at hv233_0; replace hv233_0 := Option.some.inj (hv233_0.symm.trans hx233_0); rw [hv233_0] at ge233_0; have HL233_0 := Aside0.mk (show Kd.R (Kd.int .i64) 3 _ _ _ _ ((rd_T33 y232 x40_2).f0) from ge233_0); clear hv233_0 ge233_0; have HX233_0 := Aside0.mk hx233_0; clear hcc233 hce233; (first | simp only [add_plain] at hx233_0 | simp only [add_at] at hx233_0 | simp only [Addr.add, Nat.zero_add] at hx233_0 | skip); (first | simp only [add_plain] at hx233_1 | simp only [add_at] at hx233_1 | simp only [Addr.add, Nat.zero_add] at hx233_1 | skip); have HR233_0 := Aside0.mk hi233_0; have HC233_0 := Aside0.mk hl233_0; clear hi233_0 hl233_0; replace p233 := eq_true p233; replace q233 := eq_true q233) | ((with_reducible refine gate_callee (f := 70) rfl ?_); refine goesL_ (some 73) rfl rfl Tryd.func70 (by kernel_rfl) rfl #[.int .i64 ((rd_T33 y232 x40_2).f1)] rfl (by (try simp only [List.map_toArray, List.map_cons, List.map_nil]); first | done | rfl | (simp only [List.length_drop, List.length_take]; rfl)) ?_; (with_reducible refine (linear_within.calls ((rd_T33 y232 x40_2).f1) true _ A41.out).mono ?_); rintro e w' ⟨rfl, ⟨nd, rfl⟩⟩; refine ⟨_, rfl, ?_⟩))
                            go_roundg k2
                            case measure => have := HJ5.out; have := HK2.out; omega
                            case rel => exact ⟨(wrap64 (x40_2 + 1)), (x218000_2), (y232), (by first | rfl | (simp; done) | (simp [*]; done)), H', ⟨by have := HJ5.out; have := HK2.out; omega⟩, ⟨by (with_reducible repeat (first | apply Kd.S_alloc | apply Kd.S_drewN | apply Kd.S_drew)); exact HO_224001.out⟩, ⟨by (with_reducible repeat (first | refine blk_drewN ?_ _ | refine blk_drew ?_ | refine blk_alloc ?_ _)); exact BK216.out⟩, ⟨by (with_reducible repeat (first | refine blk_drewN ?_ _ | refine blk_drew ?_ | refine blk_alloc ?_ _)); exact BK217.out⟩, ⟨by (with_reducible repeat (first | refine blk_drewN ?_ _ | refine blk_drew ?_ | refine blk_alloc ?_ _)); exact BK223.out⟩, ⟨by repeat (first | (with_reducible first | exact HB.out | apply below_alloc | apply pw_below_drewN | apply below_drew1 | refine below_set ?_ GE216.out | refine below_set ?_ GE217.out | refine below_set ?_ GE223.out) | exact HB.out)⟩⟩
                          · replace c42 := Bool.eq_false_iff.mpr c42
                            subst c42
                            have H1 : (some (0, ([] : List (S33)), 4)) = some (r1, r2, r3) := by rw [if_neg (show ¬ (false = true) by decide)] at H; exact H
                            clear H
                            have H := H1
                            clear H1
                            simp only [Option.some.injEq, Prod.mk.injEq] at H
                            obtain ⟨rfl, rfl, rfl⟩ := H
                            have hnb51 := NB223_216.out
                            have hnc51 := NB216_223.out
                            have hnb52 := NB223_217.out
                            have hnc52 := NB217_223.out
                            have hcz53_0 : wr.cell? ⟨gb223, 0, none⟩ = some (.int .i64 t219) := (blk_cell BK223.out 0).trans rfl
                            have hcz53_1 : wr.cell? ⟨gb223, 1, none⟩ = some (.slice Ao32 t220.length co32) := (blk_cell BK223.out 1).trans rfl
                            have hfz53_0 := blk_frozen BK223.out 0
                            have hfz53_1 := blk_frozen BK223.out 1
                            have p224 : 0 ≤ (x40_2 : Int) := of_decide_eq_true (by first | (with_reducible assumption) | assumption)
                            have q224 : x40_2 < (t220.length : Int) := of_decide_eq_true (by first | (with_reducible assumption) | assumption)
                            obtain ⟨ad224, A224_0, c224_0, e224, hx224_0, hx224_1, hl224_0, hi224_0⟩ := at_T33 (Kd.S_reads' HO_224001.out).2.2 x40_2 p224 q224
                            cases e224
                            obtain ⟨ce224, hce224, hMe224, hcc224⟩ := Kd.S_get HO_224001.out z33 x40_2 p224 (by first | exact q224 | exact of_decide_eq_true (by first | (with_reducible assumption) | assumption) | (have e_ := (Kd.S_reads' HO_224001.out).1; omega))
                            obtain ⟨ve224_0, rfl, ge224_0⟩ := k33_openM hMe224
                            have hv224_0 := hcc224 0 _ rfl
                            rw [Nat.add_zero] at hv224_0
                            replace hv224_0 := Option.some.inj (hv224_0.symm.trans hx224_0)
                            rw [hv224_0] at ge224_0
                            have HL224_0 := Aside0.mk (show Kd.R (Kd.int .i64) 3 _ _ _ _ ((rd_T33 t220 x40_2).f0) from ge224_0)
                            clear hv224_0 ge224_0
                            have HX224_0 := Aside0.mk hx224_0
                            clear hcc224 hce224
                            have HR224_0 := Aside0.mk hi224_0
                            have HC224_0 := Aside0.mk hl224_0
                            clear hi224_0 hl224_0
                            replace p224 := eq_true p224
                            replace q224 := eq_true q224
                            try go_wp2
                            have n0_ := Aside0.mk (Kd.S_drew HO_224001.out)
                            have n1_ := Aside0.mk (Kd.R_drew HL224_0.out)
                            have n2_ := Aside0.mk (blk_drew BK216.out)
                            have n3_ := Aside0.mk (blk_drew BK217.out)
                            have n4_ := Aside0.mk (blk_drew BK223.out)
                            have n5_ := Aside0.mk (Kd.C_drew HR224_0.out)
                            have n6_ := Aside0.mk (below_drew1 HB.out)
                            clear HO_224001
                            clear HL224_0
                            clear BK216
                            clear BK217
                            clear BK223
                            clear HR224_0
                            clear HB
                            have HO_224001 := n0_
                            have HL224_0 := n1_
                            have BK216 := n2_
                            have BK217 := n3_
                            have BK223 := n4_
                            have HR224_0 := n5_
                            have HB := n6_
                            clear n0_ n1_ n2_ n3_ n4_ n5_ n6_
                            have p225 : 0 ≤ (x40_2 : Int) := of_decide_eq_true (by first | (with_reducible assumption) | assumption)
                            have q225 : x40_2 < (t220.length : Int) := of_decide_eq_true (by first | (with_reducible assumption) | assumption)
                            obtain ⟨ad225, A225_0, c225_0, e225, hx225_0, hx225_1, hl225_0, hi225_0⟩ := at_T33 (Kd.S_reads' HO_224001.out).2.2 x40_2 p225 q225
                            obtain rfl : ad224 = ad225 := (by injection e225)
                            obtain ⟨ce225, hce225, hMe225, hcc225⟩ := Kd.S_get HO_224001.out z33 x40_2 p225 (by first | exact q225 | exact of_decide_eq_true (by first | (with_reducible assumption) | assumption) | (have e_ := (Kd.S_reads' HO_224001.out).1; omega))
                            obtain ⟨ve225_0, rfl, ge225_0⟩ := k33_openM hMe225
                            have hv225_0 := hcc225 0 _ rfl
                            rw [Nat.add_zero] at hv225_0
                            replace hv225_0 := Option.some.inj (hv225_0.symm.trans hx225_0)
                            rw [hv225_0] at ge225_0
                            have HL225_0 := Aside0.mk (show Kd.R (Kd.int .i64) 3 _ _ _ _ ((rd_T33 t220 x40_2).f0) from ge225_0)
                            clear hv225_0 ge225_0
                            have HX225_0 := Aside0.mk hx225_0
                            clear hcc225 hce225
                            have HR225_0 := Aside0.mk hi225_0
                            have HC225_0 := Aside0.mk hl225_0
                            clear hi225_0 hl225_0
                            replace p225 := eq_true p225
                            replace q225 := eq_true q225
                            have p226 : 0 ≤ (x40_2 : Int) := of_decide_eq_true (by first | (with_reducible assumption) | assumption)
                            have q226 : x40_2 < (t220.length : Int) := of_decide_eq_true (by first | (with_reducible assumption) | assumption)
                            obtain ⟨ad226, A226_0, c226_0, e226, hx226_0, hx226_1, hl226_0, hi226_0⟩ := at_T33 (Kd.S_reads' HO_224001.out).2.2 x40_2 p226 q226
                            obtain rfl : ad224 = ad226 := (by injection e226)
                            obtain ⟨ce226, hce226, hMe226, hcc226⟩ := Kd.S_get HO_224001.out z33 x40_2 p226 (by first | exact q226 | exact of_decide_eq_true (by first | (with_reducible assumption) | assumption) | (have e_ := (Kd.S_reads' HO_224001.out).1; omega))
                            obtain ⟨ve226_0, rfl, ge226_0⟩ := k33_openM hMe226
                            have hv226_0 := hcc226 0 _ rfl
                            rw [Nat.add_zero] at hv226_0
                            replace hv226_0 := Option.some.inj (hv226_0.symm.trans hx226_0)
                            rw [hv226_0] at ge226_0
                            have HL226_0 := Aside0.mk (show Kd.R (Kd.int .i64) 3 _ _ _ _ ((rd_T33 t220 x40_2).f0) from ge226_0)
                            clear hv226_0 ge226_0
                            have HX226_0 := Aside0.mk hx226_0
                            clear hcc226 hce226
                            have HR226_0 := Aside0.mk hi226_0
                            have HC226_0 := Aside0.mk hl226_0
                            clear hi226_0 hl226_0
                            replace p226 := eq_true p226
                            replace q226 := eq_true q226
                            have ea_ := Option.some.inj (hx225_0.symm.trans hx226_0)
                            injection ea_ with ea_ en_ ec_
                            subst ea_
                            subst ec_
                            clear en_
                            have p227 : 0 ≤ (a1 : Int) := of_decide_eq_true (by first | (with_reducible assumption) | assumption)
                            have q227 : a1 < (((rd_T33 t220 x40_2).f0).length : Int) := of_decide_eq_true (by first | (with_reducible assumption) | assumption)
                            obtain ⟨ad227, e227, hx227_0⟩ := Kd.at_int (by repeat (first | (with_reducible exact HR226_0.out) | (with_reducible refine Kd.C_alloc ?_ _) | (with_reducible refine Kd.C_drewN ?_ _) | (with_reducible refine Kd.C_drew ?_) | exact HR226_0.out)) a1 p227 q227
                            cases e227
                            replace p227 := eq_true p227
                            replace q227 := eq_true q227
                            have p38 : 0 ≤ (x40_2 : Int) := of_decide_eq_true (by first | (with_reducible assumption) | assumption)
                            have q38 : (x40_2 : Int) < ((t220.length : Int) : Int) := of_decide_eq_true (by first | (with_reducible assumption) | assumption)
                            obtain ⟨go38, co38, eo38, gb38, gl38, cl38, HG38⟩ := Kd.S_form HO_224001.out (by omega)
                            (first | cases eo38 | (injection eo38 with ea_ en_ ec_; (first | subst ea_ | (injection ea_ with ea_; subst ea_)); subst ec_; clear en_))
                            have GB38 := Aside0.mk gb38
                            have GG38 := Aside0.mk HG38
                            clear gb38 gl38 HG38
                            (first | simp only [add_plain] at hx224_0 | skip)
                            (first | simp only [add_plain] at hx224_1 | skip)
                            (first | simp only [add_plain] at hx225_0 | skip)
                            (first | simp only [add_plain] at hx225_1 | skip)
                            (first | simp only [add_plain] at hx226_0 | skip)
                            (first | simp only [add_plain] at hx226_1 | skip)
                            obtain ⟨_, ce38, hcl38, hM38, hcc38, hfr38, _, _⟩ := Kd.S_elem HO_224001.out z33 (x40_2 : Int) p38 q38
                            obtain ⟨ve38_0, rfl, ge38_0⟩ := k33_openM hM38
                            have hx38_0 : World.cell? _ ⟨go38, (x40_2 : Int).toNat * 2, none⟩ = some (ve38_0) := hcc38 0 _ rfl
                            have hx38_1 : World.cell? _ ⟨go38, (x40_2 : Int).toNat * 2 + 1, none⟩ = some (.int .i64 ((rd_T33 t220 x40_2).f1)) := hcc38 1 _ rfl
                            have hf38_0 : World.frozen? _ ⟨go38, (x40_2 : Int).toNat * 2, none⟩ = false := hfr38 0
                            have hf38_1 : World.frozen? _ ⟨go38, (x40_2 : Int).toNat * 2 + 1, none⟩ = false := hfr38 1
                            clear hcl38 hcc38 hfr38 hM38
                            replace p38 := eq_true p38
                            replace q38 := eq_true q38
                            have HX55 := Aside0.mk (show Kd.S k33 33 _ w.heap.size (fun k_ => ((fun _ => True)) k_ ∧ ¬ (fun _ => False) k_) (.slice (some ⟨go38, 0, none⟩) t220.length co32) t220 from (by exact Kd.S_mono HO_224001.out (fun k_ hk => ⟨trivial, fun e_ => e_⟩)))
                            obtain ⟨oki55, ce55, hcl55, hM55, hcc55, hfr55, hoki55, hH55⟩ := Kd.S_elem HX55.out z33 (x40_2 : Int) (of_decide_eq_true (by first | (with_reducible assumption) | assumption)) (by have h_ : (x40_2 : Int) < ((t220.length : Int) : Int) := of_decide_eq_true (by first | (with_reducible assumption) | assumption); first | exact h_ | (have e_ := (Kd.S_reads' HO_224001.out).1; omega) | simpa using h_)
                            obtain ⟨ve55_0, rfl, ge55_0⟩ := k33_openM hM55
                            have HP55 := (Kd.S_seg hH55 (of_decide_eq_true (by first | (with_reducible assumption) | assumption)) (by have h_ : (x40_2 : Int) < ((t220.length : Int) : Int) := of_decide_eq_true (by first | (with_reducible assumption) | assumption); first | exact h_ | (have e_ := (Kd.S_reads' HO_224001.out).1; omega) | simpa using h_) (seg := [.int .i64 (wrap64 (((rd_T33 t220 x40_2).f1) + (wrap64 ((rd ((rd_T33 t220 x40_2).f0) a1) * a2))))]) (j := 1) (show 2 ≤ 2 from by decide) (x' := (⟨(rd_T33 t220 x40_2).f0, wrap64 (((rd_T33 t220 x40_2).f1) + (wrap64 ((rd ((rd_T33 t220 x40_2).f0) a1) * a2)))⟩ : S33)) (k33_mkM _ _ _ (⟨(rd_T33 t220 x40_2).f0, wrap64 (((rd_T33 t220 x40_2).f1) + (wrap64 ((rd ((rd_T33 t220 x40_2).f0) a1) * a2)))⟩ : S33) ge55_0) (fun _ hk => Or.inl hk) (fun _ hk => hk.elim)).1
                            rw [← Ny228.out] at HP55
                            have HQ55 := Aside0.mk HP55
                            clear hcl55 hcc55 hfr55 hM55 HP55
                            refine start_ (n := 17) (S := fun w' => w'.cell? ⟨go38, ((x40_2).toNat * 2), none⟩ = some (.slice (some ad227) ((rd_T33 t220 x40_2).f0).length c225_0) ∧ w'.cell? ⟨go38, ((x40_2).toNat * 2) + 1, none⟩ = some (.int .i64 ((rd_T33 t220 x40_2).f1)) ∧ w'.cell? ⟨go38, ((x40_2).toNat * 2), none⟩ = some (.slice (some ad227) ((rd_T33 t220 x40_2).f0).length c225_0) ∧ w'.cell? ⟨go38, ((x40_2).toNat * 2) + 1, none⟩ = some (.int .i64 ((rd_T33 t220 x40_2).f1)) ∧ w'.cell? (ad227.add (a1).toNat) = some (.int .i64 (rd ((rd_T33 t220 x40_2).f0) a1))) (ds := [16]) #[false, false, false, false, false, false, false, false, false, false, false, false, false, false, false, false, false] (by kernel_rfl) rfl rfl ⟨hx225_0, hx225_1, hx226_0, hx226_1, hx227_0⟩ (fun hHeld => ?_); refine with_tabW linear_Substitute.tab11 linear_Substitute.bits11 (fun HT_ HW_ => ?_)
                            generalize wr.drew = w54 at HO_224001 HL224_0 BK216 BK217 BK223 HR224_0 HB GG38 HL225_0 HL226_0 HQ55 HR225_0 HR226_0 HX225_0 HX226_0 hf38_0 hf38_1 hx224_0 hx224_1 hx225_0 hx225_1 hx226_0 hx226_1 hx227_0 hx38_0 hx38_1 hHeld ⊢
                            refine pure_ (i := 0) (N := some 47) (v := ?_) (a' := ?_) #[true, false, false, false, false, false, false, false, false, false, false, false, false, false, false, false, false] rfl rfl (any_of HT_.out (by kernel_rfl)) (fun _ _ _ h => h) (Or.inl ⟨by rfl, ?_⟩) ?_ ?_
                            rotate_left
                            · intro w'
                              go_simp
                              with_reducible rfl
                            rotate_left
                            · simp only [Act.put, List.setIfInBounds_toArray, List.set_cons_zero, List.set_cons_succ, i64_w, i32_w]
                              rfl
                            refine pure_ (i := 1) (N := some 48) (v := ?_) (a' := ?_) #[true, true, false, false, false, false, false, false, false, false, false, false, false, false, false, false, false] rfl rfl (any_of HT_.out (by kernel_rfl)) (fun _ _ _ h => h) (Or.inl ⟨by rfl, ?_⟩) ?_ ?_
                            rotate_left
                            · intro w'
                              go_simp
                              with_reducible rfl
                            rotate_left
                            · simp only [Act.put, List.setIfInBounds_toArray, List.set_cons_zero, List.set_cons_succ, i64_w, i32_w]
                              rfl
                            refine pure_ (i := 2) (N := some 49) (v := ?_) (a' := ?_) #[true, true, true, false, false, false, false, false, false, false, false, false, false, false, false, false, false] rfl rfl (any_of HT_.out (by kernel_rfl)) (fun _ _ _ h => h) (Or.inl ⟨by rfl, ?_⟩) ?_ ?_
                            rotate_left
                            · intro w'
                              go_simp
                              with_reducible rfl
                            rotate_left
                            · simp only [Act.put, List.setIfInBounds_toArray, List.set_cons_zero, List.set_cons_succ, i64_w, i32_w]
                              rfl
                            refine pure_ (i := 4) (N := some 51) (v := ?_) (a' := ?_) #[true, true, true, false, true, false, false, false, false, false, false, false, false, false, false, false, false] rfl rfl (any_of HT_.out (by kernel_rfl)) (fun _ _ _ h => h) (Or.inl ⟨by rfl, ?_⟩) ?_ ?_
                            rotate_left
                            · intro w'
                              go_simp
                              with_reducible rfl
                            rotate_left
                            · simp only [Act.put, List.setIfInBounds_toArray, List.set_cons_zero, List.set_cons_succ, i64_w, i32_w]
                              rfl
                            refine pure_ (i := 5) (N := some 52) (v := ?_) (a' := ?_) #[true, true, true, false, true, true, false, false, false, false, false, false, false, false, false, false, false] rfl rfl (any_of HT_.out (by kernel_rfl)) (fun _ _ _ h => h) (Or.inl ⟨by rfl, ?_⟩) ?_ ?_
                            rotate_left
                            · intro w'
                              go_simp
                              with_reducible rfl
                            rotate_left
                            · simp only [Act.put, List.setIfInBounds_toArray, List.set_cons_zero, List.set_cons_succ, i64_w, i32_w]
                              rfl
                            refine pure_ (i := 6) (N := some 53) (v := ?_) (a' := ?_) #[true, true, true, false, true, true, true, false, false, false, false, false, false, false, false, false, false] rfl rfl (any_of HT_.out (by kernel_rfl)) (fun _ _ _ h => h) (Or.inl ⟨by rfl, ?_⟩) ?_ ?_
                            rotate_left
                            · intro w'
                              go_simp
                              with_reducible rfl
                            rotate_left
                            · simp only [Act.put, List.setIfInBounds_toArray, List.set_cons_zero, List.set_cons_succ, i64_w, i32_w]
                              rfl
                            refine pure_ (i := 8) (N := some 55) (v := ?_) (a' := ?_) #[true, true, true, false, true, true, true, false, true, false, false, false, false, false, false, false, false] rfl rfl (any_of HT_.out (by kernel_rfl)) (fun _ _ _ h => h) (Or.inl ⟨by rfl, ?_⟩) ?_ ?_
                            rotate_left
                            · intro w'
                              go_simp
                              with_reducible rfl
                            rotate_left
                            · simp only [Act.put, List.setIfInBounds_toArray, List.set_cons_zero, List.set_cons_succ, i64_w, i32_w]
                              rfl
                            refine pure_ (i := 11) (N := some 58) (v := ?_) (a' := ?_) #[true, true, true, false, true, true, true, false, true, false, false, true, false, false, false, false, false] rfl rfl (any_of HT_.out (by kernel_rfl)) (fun _ _ _ h => h) (Or.inl ⟨by rfl, ?_⟩) ?_ ?_
                            rotate_left
                            · intro w'
                              go_simp
                              with_reducible rfl
                            rotate_left
                            · simp only [Act.put, List.setIfInBounds_toArray, List.set_cons_zero, List.set_cons_succ, i64_w, i32_w]
                              rfl
                            refine take_ (i := 3) (N := some 50) (v := ?_) (a' := ?_) #[true, true, true, true, true, true, true, false, true, false, false, true, false, false, false, false, false] rfl rfl (take_ofW HT_.out HW_.out (by kernel_rfl)) (fun _ _ _ h => h) (Or.inl ⟨by rfl, ?_⟩) hHeld ?_ ?_
                            rotate_left
                            · rintro w' ⟨s0, s1, s2, s3, s4⟩
                              go_simp
                              with_reducible rfl
                            rotate_left
                            · simp only [Act.put, List.setIfInBounds_toArray, List.set_cons_zero, List.set_cons_succ, i64_w, i32_w]
                              rfl
                            refine take_ (i := 7) (N := some 54) (v := ?_) (a' := ?_) #[true, true, true, true, true, true, true, true, true, false, false, true, false, false, false, false, false] rfl rfl (take_ofW HT_.out HW_.out (by kernel_rfl)) (fun _ _ _ h => h) (Or.inl ⟨by rfl, ?_⟩) hHeld ?_ ?_
                            rotate_left
                            · rintro w' ⟨s0, s1, s2, s3, s4⟩
                              go_simp
                              with_reducible rfl
                            rotate_left
                            · simp only [Act.put, List.setIfInBounds_toArray, List.set_cons_zero, List.set_cons_succ, i64_w, i32_w]
                              rfl
                            refine pure_ (i := 9) (N := some 56) (v := ?_) (a' := ?_) #[true, true, true, true, true, true, true, true, true, true, false, true, false, false, false, false, false] rfl rfl (any_of HT_.out (by kernel_rfl)) (fun _ _ _ h => h) (Or.inl ⟨by rfl, ?_⟩) ?_ ?_
                            rotate_left
                            · intro w'
                              go_simp
                              with_reducible rfl
                            rotate_left
                            · simp only [Act.put, List.setIfInBounds_toArray, List.set_cons_zero, List.set_cons_succ, i64_w, i32_w]
                              rfl
                            refine take_ (i := 10) (N := some 57) (v := ?_) (a' := ?_) #[true, true, true, true, true, true, true, true, true, true, true, true, false, false, false, false, false] rfl rfl (take_ofW HT_.out HW_.out (by kernel_rfl)) (fun _ _ _ h => h) (Or.inl ⟨by rfl, ?_⟩) hHeld ?_ ?_
                            rotate_left
                            · rintro w' ⟨s0, s1, s2, s3, s4⟩
                              go_simp
                              with_reducible rfl
                            rotate_left
                            · simp only [Act.put, List.setIfInBounds_toArray, List.set_cons_zero, List.set_cons_succ, i64_w, i32_w]
                              rfl
                            refine pure_ (i := 12) (N := some 59) (v := ?_) (a' := ?_) #[true, true, true, true, true, true, true, true, true, true, true, true, true, false, false, false, false] rfl rfl (any_of HT_.out (by kernel_rfl)) (fun _ _ _ h => h) (Or.inl ⟨by rfl, ?_⟩) ?_ ?_
                            rotate_left
                            · intro w'
                              go_simp
                              with_reducible rfl
                            rotate_left
                            · simp only [Act.put, List.setIfInBounds_toArray, List.set_cons_zero, List.set_cons_succ, i64_w, i32_w]
                              rfl
                            refine pure_ (i := 13) (N := some 60) (v := ?_) (a' := ?_) #[true, true, true, true, true, true, true, true, true, true, true, true, true, true, false, false, false] rfl rfl (any_of HT_.out (by kernel_rfl)) (fun _ _ _ h => h) (Or.inl ⟨by rfl, ?_⟩) ?_ ?_
                            rotate_left
                            · intro w'
                              go_simp
                              with_reducible rfl
                            rotate_left
                            · simp only [Act.put, List.setIfInBounds_toArray, List.set_cons_zero, List.set_cons_succ, i64_w, i32_w]
                              rfl
                            refine pure_ (i := 14) (N := some 61) (v := ?_) (a' := ?_) #[true, true, true, true, true, true, true, true, true, true, true, true, true, true, true, false, false] rfl rfl (any_of HT_.out (by kernel_rfl)) (fun _ _ _ h => h) (Or.inl ⟨by rfl, ?_⟩) ?_ ?_
                            rotate_left
                            · intro w'
                              go_simp
                              with_reducible rfl
                            rotate_left
                            · simp only [Act.put, List.setIfInBounds_toArray, List.set_cons_zero, List.set_cons_succ, i64_w, i32_w]
                              rfl
                            refine pure_ (i := 15) (N := some 62) (v := ?_) (a' := ?_) #[true, true, true, true, true, true, true, true, true, true, true, true, true, true, true, true, false] rfl rfl (any_of HT_.out (by kernel_rfl)) (fun _ _ _ h => h) (Or.inl ⟨by rfl, ?_⟩) ?_ ?_
                            rotate_left
                            · intro w'
                              go_simp
                              with_reducible rfl
                            rotate_left
                            · simp only [Act.put, List.setIfInBounds_toArray, List.set_cons_zero, List.set_cons_succ, i64_w, i32_w]
                              rfl
                            refine last_ (i := 16) (N := none) #[true, true, true, true, true, true, true, true, true, true, true, true, true, true, true, true, true] rfl rfl (one_of HT_.out (by kernel_rfl)) (by decide) (fun K hK => ?_)
                            refine skip_ (w1 := ?_) (by rfl) rfl ?_ ?_
                            rotate_left
                            · go_simp
                              rfl
                            refine hK.out _ _ ?_
                            clear hK K
                            refine done_ (done_of HT_.out (by kernel_rfl)) ?_
                            have n0_ : Aside0 (Kd.S k33 33 (w54.setCell ⟨go38, (x40_2 : Int).toNat * 2 + 1, none⟩ (.int .i64 (wrap64 (((rd_T33 t220 x40_2).f1) + (wrap64 ((rd ((rd_T33 t220 x40_2).f0) a1) * a2)))))) w.heap.size (fun _ => True) (.slice (some ⟨go38, 0, none⟩) t220.length co32) y228) := ⟨by (with_reducible repeat (first | apply Kd.S_alloc | apply Kd.S_drewN | apply Kd.S_drew)); exact HQ55.out⟩
                            have n1_ : Aside0 (Kd.R (Kd.int .i64) 3 (w54.setCell ⟨go38, (x40_2 : Int).toNat * 2 + 1, none⟩ (.int .i64 (wrap64 (((rd_T33 t220 x40_2).f1) + (wrap64 ((rd ((rd_T33 t220 x40_2).f0) a1) * a2)))))) w.heap.size (fun k_ => some k_ ≠ (.slice (some ⟨go38, 0, none⟩) t220.length co32 : Value).ownBlock) (.slice A224_0 ((rd_T33 t220 x40_2).f0).length c224_0) ((rd_T33 t220 x40_2).f0)) := ⟨by (with_reducible repeat (first | apply Kd.R_alloc | apply Kd.R_drewN | apply Kd.R_drew)); exact Kd.R_mono (Kd.R_far (p := ⟨go38, (x40_2 : Int).toNat * 2 + 1, none⟩) (Kd.R_types HL224_0.out GG38.out (by decide)) (fun _ hk => hk.2) (.int .i64 (wrap64 (((rd_T33 t220 x40_2).f1) + (wrap64 ((rd ((rd_T33 t220 x40_2).f0) a1) * a2)))))) (fun _ hk => hk.1.2)⟩
                            have n2_ : Aside0 (Kd.R (Kd.int .i64) 3 (w54.setCell ⟨go38, (x40_2 : Int).toNat * 2 + 1, none⟩ (.int .i64 (wrap64 (((rd_T33 t220 x40_2).f1) + (wrap64 ((rd ((rd_T33 t220 x40_2).f0) a1) * a2)))))) w.heap.size (fun k_ => some k_ ≠ (.slice (some ⟨go38, 0, none⟩) t220.length co32 : Value).ownBlock) (.slice (some ad227) ((rd_T33 t220 x40_2).f0).length c225_0) ((rd_T33 t220 x40_2).f0)) := ⟨by (with_reducible repeat (first | apply Kd.R_alloc | apply Kd.R_drewN | apply Kd.R_drew)); exact Kd.R_mono (Kd.R_far (p := ⟨go38, (x40_2 : Int).toNat * 2 + 1, none⟩) (Kd.R_types HL225_0.out GG38.out (by decide)) (fun _ hk => hk.2) (.int .i64 (wrap64 (((rd_T33 t220 x40_2).f1) + (wrap64 ((rd ((rd_T33 t220 x40_2).f0) a1) * a2)))))) (fun _ hk => hk.1.2)⟩
                            have n3_ : Aside0 (Kd.R (Kd.int .i64) 3 (w54.setCell ⟨go38, (x40_2 : Int).toNat * 2 + 1, none⟩ (.int .i64 (wrap64 (((rd_T33 t220 x40_2).f1) + (wrap64 ((rd ((rd_T33 t220 x40_2).f0) a1) * a2)))))) w.heap.size (fun k_ => some k_ ≠ (.slice (some ⟨go38, 0, none⟩) t220.length co32 : Value).ownBlock) (.slice (some ad227) ((rd_T33 t220 x40_2).f0).length c225_0) ((rd_T33 t220 x40_2).f0)) := ⟨by (with_reducible repeat (first | apply Kd.R_alloc | apply Kd.R_drewN | apply Kd.R_drew)); exact Kd.R_mono (Kd.R_far (p := ⟨go38, (x40_2 : Int).toNat * 2 + 1, none⟩) (Kd.R_types HL226_0.out GG38.out (by decide)) (fun _ hk => hk.2) (.int .i64 (wrap64 (((rd_T33 t220 x40_2).f1) + (wrap64 ((rd ((rd_T33 t220 x40_2).f0) a1) * a2)))))) (fun _ hk => hk.1.2)⟩
                            have n4_ : Aside0 ((w54.setCell ⟨go38, (x40_2 : Int).toNat * 2 + 1, none⟩ (.int .i64 (wrap64 (((rd_T33 t220 x40_2).f1) + (wrap64 ((rd ((rd_T33 t220 x40_2).f0) a1) * a2)))))).heap[gb216]? = some (.cells #[.int .i64 a0_0, .slice A0_1 l0_1.length c0_1] 24 (0, 0))) := ⟨by (with_reducible repeat (first | refine blk_drewN ?_ _ | refine blk_drew ?_ | refine blk_alloc ?_ _)); refine blk_far ?_ (by have h_ := Kd.S_ne HO_224001.out BK216.out (by decide); intro e_; exact h_ (by rw [e_]; rfl)) _; (with_reducible repeat (first | refine blk_drewN ?_ _ | refine blk_drew ?_ | refine blk_alloc ?_ _)); exact BK216.out⟩
                            have n5_ : Aside0 ((w54.setCell ⟨go38, (x40_2 : Int).toNat * 2 + 1, none⟩ (.int .i64 (wrap64 (((rd_T33 t220 x40_2).f1) + (wrap64 ((rd ((rd_T33 t220 x40_2).f0) a1) * a2)))))).heap[gb217]? = some (.cells #[.int .i64 x218000_2, .slice none 0 0] 24 (0, 0))) := ⟨by (with_reducible repeat (first | refine blk_drewN ?_ _ | refine blk_drew ?_ | refine blk_alloc ?_ _)); refine blk_far ?_ (by have h_ := Kd.S_ne HO_224001.out BK217.out (by decide); intro e_; exact h_ (by rw [e_]; rfl)) _; (with_reducible repeat (first | refine blk_drewN ?_ _ | refine blk_drew ?_ | refine blk_alloc ?_ _)); exact BK217.out⟩
                            have n6_ : Aside0 ((w54.setCell ⟨go38, (x40_2 : Int).toNat * 2 + 1, none⟩ (.int .i64 (wrap64 (((rd_T33 t220 x40_2).f1) + (wrap64 ((rd ((rd_T33 t220 x40_2).f0) a1) * a2)))))).heap[gb223]? = some (.cells #[.int .i64 t219, .slice (some ⟨go38, 0, none⟩) t220.length co32] 24 (0, 0))) := ⟨by (with_reducible repeat (first | refine blk_drewN ?_ _ | refine blk_drew ?_ | refine blk_alloc ?_ _)); refine blk_far ?_ (by have h_ := Kd.S_ne HO_224001.out BK223.out (by decide); intro e_; exact h_ (by rw [e_]; rfl)) _; (with_reducible repeat (first | refine blk_drewN ?_ _ | refine blk_drew ?_ | refine blk_alloc ?_ _)); exact BK223.out⟩
                            have n7_ : Aside0 (Below w.heap.size w (w54.setCell ⟨go38, (x40_2 : Int).toNat * 2 + 1, none⟩ (.int .i64 (wrap64 (((rd_T33 t220 x40_2).f1) + (wrap64 ((rd ((rd_T33 t220 x40_2).f0) a1) * a2))))))) := ⟨by repeat (first | (with_reducible first | exact HB.out | apply below_alloc | apply pw_below_drewN | apply below_drew1 | refine below_set ?_ GB38.out | refine below_set ?_ GE216.out | refine below_set ?_ GE217.out | refine below_set ?_ GE223.out) | exact HB.out)⟩
                            (try clear HO_224001)
                            (try clear HL224_0)
                            (try clear HL225_0)
                            (try clear HL226_0)
                            (try clear BK216)
                            (try clear BK217)
                            (try clear BK223)
                            (try clear HB)
                            generalize (w54.setCell ⟨go38, (x40_2 : Int).toNat * 2 + 1, none⟩ (.int .i64 (wrap64 (((rd_T33 t220 x40_2).f1) + (wrap64 ((rd ((rd_T33 t220 x40_2).f0) a1) * a2)))))) = w56 at n0_ n1_ n2_ n3_ n4_ n5_ n6_ n7_ ⊢
                            have HO_224001 := n0_
                            have HL224_0 := n1_
                            have HL225_0 := n2_
                            have HL226_0 := n3_
                            have BK216 := n4_
                            have BK217 := n5_
                            have BK223 := n6_
                            have HB := n7_
                            clear n0_ n1_ n2_ n3_ n4_ n5_ n6_ n7_
                            have p229 : 0 ≤ (x40_2 : Int) := of_decide_eq_true (by first | (with_reducible assumption) | assumption)
                            have q229 : x40_2 < (y228.length : Int) := (by have h_ : (x40_2 : Int) < ((t220.length : Int) : Int) := of_decide_eq_true (by first | (with_reducible assumption) | assumption); first | (have e_ := (Kd.S_reads' HO_224001.out).1; omega) | simpa only [Ny228.out, List.length_set] using h_)
                            have ql229 : ((x40_2 : Int) < ((t220.length : Int) : Int)) = True := eq_true (of_decide_eq_true (by first | (with_reducible assumption) | assumption))
                            obtain ⟨ad229, A229_0, c229_0, e229, hx229_0, hx229_1, hl229_0, hi229_0⟩ := at_T33 (Kd.S_reads' HO_224001.out).2.2 x40_2 p229 q229
                            obtain rfl : (⟨go38, 0, none⟩ : Addr) = ad229 := (by injection e229)
                            obtain ⟨ce229, hce229, hMe229, hcc229⟩ := Kd.S_get HO_224001.out z33 x40_2 p229 (by first | exact q229 | exact of_decide_eq_true (by first | (with_reducible assumption) | assumption) | (have e_ := (Kd.S_reads' HO_224001.out).1; omega))
                            obtain ⟨ve229_0, rfl, ge229_0⟩ := k33_openM hMe229
                            have hv229_0 := hcc229 0 _ rfl
                            rw [Nat.add_zero] at hv229_0
                            replace hv229_0 := Option.some.inj (hv229_0.symm.trans hx229_0)
                            rw [hv229_0] at ge229_0
                            have HL229_0 := Aside0.mk (show Kd.R (Kd.int .i64) 3 _ _ _ _ ((rd_T33 y228 x40_2).f0) from ge229_0)
                            clear hv229_0 ge229_0
                            have HX229_0 := Aside0.mk hx229_0
                            clear hcc229 hce229
                            (first | simp only [add_plain] at hx229_0 | simp only [add_at] at hx229_0 | simp only [Addr.add, Nat.zero_add] at hx229_0 | skip)
                            (first | simp only [add_plain] at hx229_1 | simp only [add_at] at hx229_1 | simp only [Addr.add, Nat.zero_add] at hx229_1 | skip)
                            have HR229_0 := Aside0.mk hi229_0
                            have HC229_0 := Aside0.mk hl229_0
                            clear hi229_0 hl229_0
                            replace p229 := eq_true p229
                            replace q229 := eq_true q229
                            have p40 : 0 ≤ (a1 : Int) := of_decide_eq_true (by first | (with_reducible assumption) | assumption)
                            have q40 : (a1 : Int) < ((((rd_T33 y228 x40_2).f0).length : Int) : Int) := of_decide_eq_true (by first | (with_reducible assumption) | assumption)
                            obtain ⟨go40, co40, eo40, gb40, gl40, cl40, HG40⟩ := Kd.R_form HL229_0.out (by omega)
                            (first | cases eo40 | (injection eo40 with ea_ en_ ec_; (first | subst ea_ | (injection ea_ with ea_; subst ea_)); subst ec_; clear en_))
                            have GB40 := Aside0.mk gb40
                            have GG40 := Aside0.mk HG40
                            clear gb40 gl40 HG40
                            obtain ⟨hx40_0, hf40_0⟩ := Kd.R_celln 0 HL229_0.out (a1 : Int) p40 q40
                            replace p40 := eq_true p40
                            replace q40 := eq_true q40
                            have hq57 : (x40_2 : Int) < (y228.length : Int) := (by have h_ : (x40_2 : Int) < ((t220.length : Int) : Int) := of_decide_eq_true (by first | (with_reducible assumption) | assumption); first | exact h_ | (have e_ := (Kd.S_reads' HO_224001.out).1; omega) | simpa only [Ny228.out, List.length_set] using h_)
                            obtain ⟨oki57, ce57, hcl57, hM57, hcc57, hok57, hbk57⟩ := Kd.S_borrow HO_224001.out z33 (x40_2 : Int) (of_decide_eq_true (by first | (with_reducible assumption) | assumption)) (by first | exact hq57 | (have e_ := (Kd.S_reads' HO_224001.out).1; have h_ := hq57; omega))
                            obtain ⟨ve57_0, rfl, ge57_0⟩ := k33_openM hM57
                            have hv57 := hcc57 0 _ rfl
                            rw [Nat.add_zero] at hv57
                            replace hv57 := Option.some.inj (hv57.symm.trans HX229_0.out)
                            subst hv57
                            clear hcc57 hcl57
                            replace ge57_0 := (show Kd.R (Kd.int .i64) 3 _ _ _ _ ((rd_T33 y228 x40_2).f0) from ge57_0)
                            have HP57 := Kd.R_putg ge57_0 (a1 : Int) 0
                            try go_wp2_with (first | ((with_reducible refine gate_store (t := 3) (p := 68) rfl ?_); refine store_event (t := 3) (p := 68) (v := ?vo_w58) (w1 := (w56.setCell ⟨go40, (a1 : Int).toNat, none⟩ (.int .i64 0))) ?hg ?ho ?hn ?hr ?_; (case ho => rfl); (case hg => rfl); (case hn => rfl); (case hr => first | (go_simp; done) | (go_simp; rfl)); intro w58 hw; have hg : w56.grownBy w58 (some go40) := (by rw [hw]; exact HP57.2); have hz_ : Kd.R (Kd.int .i64) 3 w58 w.heap.size oki57 (.slice (some ⟨go40, 0, none⟩) ((rd_T33 y228 x40_2).f0).length c229_0) y230 := (by rw [hw, Ny230.out]; exact HP57.1); have hp_ : Kd.S k33 33 w58 w.heap.size (fun _ => True) (.slice (some ⟨go38, 0, none⟩) t220.length co32) y232 := (by rw [Ny232.out]; exact hbk57 hg (fun k_ e_ => by injection e_ with e_; subst e_; exact ge57_0.1 _ rfl) (k33_mkM _ _ _ (⟨y230, (rd_T33 y228 x40_2).f1⟩ : S33) hz_)); have hm_ := Kd.R_mono hz_ hok57; clear HP57 hbk57; have n0_ := Aside0.mk (hp_); have n1_ := Aside0.mk (blk_grown (g := gb216) (o := .cells #[.int .i64 a0_0, .slice A0_1 l0_1.length c0_1] 24 (0, 0)) (by (with_reducible repeat (first | refine blk_drewN ?_ _ | refine blk_drew ?_ | refine blk_alloc ?_ _)); exact BK216.out) hg (Kd.R_ne HL229_0.out BK216.out (by decide))); have n2_ := Aside0.mk (blk_grown (g := gb217) (o := .cells #[.int .i64 x218000_2, .slice none 0 0] 24 (0, 0)) (by (with_reducible repeat (first | refine blk_drewN ?_ _ | refine blk_drew ?_ | refine blk_alloc ?_ _)); exact BK217.out) hg (Kd.R_ne HL229_0.out BK217.out (by decide))); have n3_ := Aside0.mk (blk_grown (g := gb223) (o := .cells #[.int .i64 t219, .slice (some ⟨go38, 0, none⟩) t220.length co32] 24 (0, 0)) (by (with_reducible repeat (first | refine blk_drewN ?_ _ | refine blk_drew ?_ | refine blk_alloc ?_ _)); exact BK223.out) hg (Kd.R_ne HL229_0.out BK223.out (by decide))); have n4_ := Aside0.mk ((by rw [hw]; exact below_set (HB.out) GB40.out : Below w.heap.size w w58)); have n5_ := Aside0.mk (hm_); have n6_ := Aside0.mk ((Kd.R_reads' hm_).2.1); clear HO_224001; clear BK216; clear BK217; clear BK223; clear HB; clear HL224_0; clear HL225_0; clear HL226_0; clear HL229_0; have HO_224001 := n0_; have BK216 := n1_; have BK217 := n2_; have BK223 := n3_; have HB := n4_; have HL236 := n5_; have HC231 := n6_; clear n0_ n1_ n2_ n3_ n4_ n5_ n6_; clear hg hw hp_ hz_ hm_ hok57; have p233 : 0 ≤ (x40_2 : Int) := of_decide_eq_true (by first | (with_reducible assumption) | assumption); have q233 : x40_2 < (y232.length : Int) := (by have h_ : (x40_2 : Int) < ((t220.length : Int) : Int) := of_decide_eq_true (by first | (with_reducible assumption) | assumption); first | (have e_ := (Kd.S_reads' HO_224001.out).1; omega) | simpa only [Ny228.out, Ny232.out, List.length_set] using h_); have ql233 : ((x40_2 : Int) < ((t220.length : Int) : Int)) = True := eq_true (of_decide_eq_true (by first | (with_reducible assumption) | assumption)); obtain ⟨ad233, A233_0, c233_0, e233, hx233_0, hx233_1, hl233_0, hi233_0⟩ := at_T33 (Kd.S_reads' HO_224001.out).2.2 x40_2 p233 q233; obtain rfl : (⟨go38, 0, none⟩ : Addr) = ad233 := (by injection e233); obtain ⟨ce233, hce233, hMe233, hcc233⟩ := Kd.S_get HO_224001.out z33 x40_2 p233 (by first | exact q233 | exact of_decide_eq_true (by first | (with_reducible assumption) | assumption) | (have e_ := (Kd.S_reads' HO_224001.out).1; omega)); obtain ⟨ve233_0, rfl, ge233_0⟩ := k33_openM hMe233; have hv233_0 := hcc233 0 _ rfl; rw [Nat.add_zero] at hv233_0; replace hv233_0 := Option.some.inj (hv233_0.symm.trans hx233_0); rw [hv233_0] at ge233_0; have HL233_0 := Aside0.mk (show Kd.R (Kd.int .i64) 3 _ _ _ _ ((rd_T33 y232 x40_2).f0) from ge233_0); clear hv233_0 ge233_0; have HX233_0 := Aside0.mk hx233_0; clear hcc233 hce233; (first | simp only [add_plain] at hx233_0 | simp only [add_at] at hx233_0 | simp only [Addr.add, Nat.zero_add] at hx233_0 | skip); (first | simp only [add_plain] at hx233_1 | simp only [add_at] at hx233_1 | simp only [Addr.add, Nat.zero_add] at hx233_1 | skip); have HR233_0 := Aside0.mk hi233_0; have HC233_0 := Aside0.mk hl233_0; clear hi233_0 hl233_0; replace p233 := eq_true p233; replace q233 := eq_true q233) | ((with_reducible refine gate_callee (f := 70) rfl ?_); refine goesL_ (some 73) rfl rfl Tryd.func70 (by kernel_rfl) rfl #[.int .i64 ((rd_T33 y232 x40_2).f1)] rfl (by (try simp only [List.map_toArray, List.map_cons, List.map_nil]); first | done | rfl | (simp only [List.length_drop, List.length_take]; rfl)) ?_; (with_reducible refine (linear_within.calls ((rd_T33 y232 x40_2).f1) false _ A41.out).mono ?_); rintro e w' ⟨rfl, ⟨nd, rfl⟩⟩; refine ⟨_, rfl, ?_⟩; (try (rw [drewN_self w58]; generalize hq_ : World.drewN w58 _ = w58; have n0_ : Aside0 (Kd.R (Kd.int .i64) 3 w58 w.heap.size (fun k_ => some k_ ≠ (.slice (some ⟨go38, 0, none⟩) t220.length co32 : Value).ownBlock) (.slice A233_0 ((rd_T33 y232 x40_2).f0).length c233_0) ((rd_T33 y232 x40_2).f0)) := ⟨by rw [← hq_]; exact (by (with_reducible repeat (first | apply Kd.R_alloc | apply Kd.R_drewN | apply Kd.R_drew)); exact Kd.R_mono HL233_0.out (fun _ hk => hk.2))⟩; have n1_ : Aside0 (Kd.R (Kd.int .i64) 3 w58 w.heap.size (fun k_ => some k_ ≠ (.slice (some ⟨go38, 0, none⟩) t220.length co32 : Value).ownBlock) (.slice (some ⟨go40, 0, none⟩) ((rd_T33 y228 x40_2).f0).length c229_0) y230) := ⟨by rw [← hq_]; exact (by (with_reducible repeat (first | apply Kd.R_alloc | apply Kd.R_drewN | apply Kd.R_drew)); exact Kd.R_mono HL236.out (fun _ hk => hk.2))⟩; have n2_ : Aside0 (Kd.S k33 33 w58 w.heap.size (fun _ => True) (.slice (some ⟨go38, 0, none⟩) t220.length co32) y232) := ⟨by rw [← hq_]; exact (by (with_reducible repeat (first | apply Kd.S_alloc | apply Kd.S_drewN | apply Kd.S_drew)); exact HO_224001.out)⟩; have n3_ : Aside0 (w58.heap[gb216]? = some (.cells #[.int .i64 a0_0, .slice A0_1 l0_1.length c0_1] 24 (0, 0))) := ⟨by rw [← hq_]; exact (by (with_reducible repeat (first | refine blk_drewN ?_ _ | refine blk_drew ?_ | refine blk_alloc ?_ _)); exact BK216.out)⟩; have n4_ : Aside0 (w58.heap[gb217]? = some (.cells #[.int .i64 x218000_2, .slice none 0 0] 24 (0, 0))) := ⟨by rw [← hq_]; exact (by (with_reducible repeat (first | refine blk_drewN ?_ _ | refine blk_drew ?_ | refine blk_alloc ?_ _)); exact BK217.out)⟩; have n5_ : Aside0 (w58.heap[gb223]? = some (.cells #[.int .i64 t219, .slice (some ⟨go38, 0, none⟩) t220.length co32] 24 (0, 0))) := ⟨by rw [← hq_]; exact (by (with_reducible repeat (first | refine blk_drewN ?_ _ | refine blk_drew ?_ | refine blk_alloc ?_ _)); exact BK223.out)⟩; have n6_ : Aside0 (Below w.heap.size w w58) := ⟨by rw [← hq_]; exact (by repeat (first | (with_reducible first | exact HB.out | apply below_alloc | apply pw_below_drewN | apply below_drew1 | refine below_set ?_ GE216.out | refine below_set ?_ GE217.out | refine below_set ?_ GE223.out) | exact HB.out))⟩; have n7_ : Aside0 (Kd.C (Kd.int .i64) w58 A233_0 ((rd_T33 y232 x40_2).f0).length ((rd_T33 y232 x40_2).f0)) := ⟨by rw [← hq_]; exact (by repeat (first | (with_reducible exact HR233_0.out) | (with_reducible refine Kd.C_alloc ?_ _) | (with_reducible refine Kd.C_drewN ?_ _) | (with_reducible refine Kd.C_drew ?_) | exact HR233_0.out))⟩; clear HL233_0 HL236 HO_224001 BK216 BK217 BK223 HB HR233_0 hq_; have HL233_0 := n0_; have HL236 := n1_; have HO_224001 := n2_; have BK216 := n3_; have BK217 := n4_; have BK223 := n5_; have HB := n6_; have HR233_0 := n7_; clear n0_ n1_ n2_ n3_ n4_ n5_ n6_ n7_)); have hnb59 := NB217_216.out; have hnc59 := NB216_217.out; have hcz60_0 : w58.cell? ⟨gb217, 0, none⟩ = some (.int .i64 x218000_2) := (blk_cell BK217.out 0).trans rfl; have hcz60_1 : w58.cell? ⟨gb217, 1, none⟩ = some (.slice none 0 0) := (blk_cell BK217.out 1).trans rfl; have hfz60_0 := blk_frozen BK217.out 0; have hfz60_1 := blk_frozen BK217.out 1))
                            refine bodyPost_ret (results_ct rfl _ _ gb217 24 #[.int .i64 0, .slice none 0 0] (0, 0) _ rfl (by (with_reducible repeat (first | refine blk_drewN ?_ _ | refine blk_drew ?_ | refine blk_alloc ?_ _)); refine blk_put (cs := #[.int .i64 0, .slice none 0 0]) ?_ 1 _ rfl; (with_reducible repeat (first | refine blk_drewN ?_ _ | refine blk_drew ?_ | refine blk_alloc ?_ _)); refine blk_put (cs := #[.int .i64 x218000_2, .slice none 0 0]) ?_ 0 _ rfl; (with_reducible repeat (first | refine blk_drewN ?_ _ | refine blk_drew ?_ | refine blk_alloc ?_ _)); exact BK217.out) Tryd.underlying24 rfl (by kernel_rfl)) rfl ?_
                            exact ⟨_, by first | rfl | (simp [errW_none, errW_some] <;> rfl) | (simp [*, errW_none, errW_some] <;> rfl), by first | exact Kd.S_nil _ _ _ _ _ | exact Kd.N_nil _ _ _ _ _ | exact Kd.V_nil _ _ _ _ _ | exact Kd.Q_nil _ _ _ _ _ | exact Kd.R_nil _ _ _ _ _, by repeat (first | (with_reducible first | exact HB.out | apply below_alloc | apply pw_below_drewN | apply below_drew1 | refine below_set ?_ GE216.out | refine below_set ?_ GE217.out | refine below_set ?_ GE223.out) | exact HB.out)⟩
                        · rw [if_neg c39] at H
                          exact absurd H (by simp)
                      · rw [if_neg c37] at H
                        exact absurd H (by simp)
                    · rw [if_neg c36] at H
                      exact absurd H (by simp)
                  · rw [if_neg c35] at H
                    exact absurd H (by simp)
                · rw [if_neg c34] at H
                  exact absurd H (by simp)
              · rw [if_neg c33] at H
                have c33b0 : decide (x40_2 < (t220.length : Int)) = false := decide_eq_false c33
                clear c33
                simp only [Option.some.injEq, Prod.mk.injEq] at H
                obtain ⟨rfl, rfl, rfl⟩ := H
                have hnb61 := NB223_216.out
                have hnc61 := NB216_223.out
                have hnb62 := NB223_217.out
                have hnc62 := NB217_223.out
                have hcz63_0 : wr.cell? ⟨gb223, 0, none⟩ = some (.int .i64 t219) := (blk_cell BK223.out 0).trans rfl
                have hcz63_1 : wr.cell? ⟨gb223, 1, none⟩ = some (.slice Ao32 t220.length co32) := (blk_cell BK223.out 1).trans rfl
                have hfz63_0 := blk_frozen BK223.out 0
                have hfz63_1 := blk_frozen BK223.out 1
                have hnb64 := NB217_216.out
                have hnc64 := NB216_217.out
                have hcz65_0 : wr.cell? ⟨gb217, 0, none⟩ = some (.int .i64 x218000_2) := (blk_cell BK217.out 0).trans rfl
                have hcz65_1 : wr.cell? ⟨gb217, 1, none⟩ = some (.slice none 0 0) := (blk_cell BK217.out 1).trans rfl
                have hfz65_0 := blk_frozen BK217.out 0
                have hfz65_1 := blk_frozen BK217.out 1
                go_wp2
                refine bodyPost_ret (results_ct rfl _ _ gb217 24 #[.int .i64 t219, .slice Ao32 t220.length co32] (0, 0) _ rfl (by (with_reducible repeat (first | refine blk_drewN ?_ _ | refine blk_drew ?_ | refine blk_alloc ?_ _)); refine blk_put (cs := #[.int .i64 t219, .slice none 0 0]) ?_ 1 _ rfl; (with_reducible repeat (first | refine blk_drewN ?_ _ | refine blk_drew ?_ | refine blk_alloc ?_ _)); refine blk_put (cs := #[.int .i64 x218000_2, .slice none 0 0]) ?_ 0 _ rfl; (with_reducible repeat (first | refine blk_drewN ?_ _ | refine blk_drew ?_ | refine blk_alloc ?_ _)); exact BK217.out) Tryd.underlying24 rfl (by kernel_rfl)) rfl ?_
                exact ⟨_, by first | rfl | (simp [errW_none, errW_some] <;> rfl) | (simp [*, errW_none, errW_some] <;> rfl), by (with_reducible repeat (first | apply Kd.S_alloc | apply Kd.S_drewN | apply Kd.S_drew)); exact Kd.S_mono (Kd.S_far (p := ⟨gb217, 1, none⟩) (Kd.S_far (p := ⟨gb217, 0, none⟩) (Kd.S_types HO_224001.out BK217.out (by decide)) (fun _ hk => hk.2) (.int .i64 t219)) (fun _ hk => hk.2) (.slice Ao32 t220.length co32)) (fun _ hk => trivial), by repeat (first | (with_reducible first | exact HB.out | apply below_alloc | apply pw_below_drewN | apply below_drew1 | refine below_set ?_ GE216.out | refine below_set ?_ GE217.out | refine below_set ?_ GE223.out) | exact HB.out)⟩
  · rw [if_neg c5] at H
    have c5b0 : (t218 == 0) = false := beq_eq_false_iff_ne.mpr c5
    have c5b1 : (t218 != 0) = true := bne_iff_ne.mpr c5
    simp only [Option.some.injEq, Prod.mk.injEq] at H
    obtain ⟨rfl, rfl, rfl⟩ := H
    go_enter Tryd.func43, Tryd.ntmps43
    go_wp2_with (first | ((with_reducible refine gate_dst (N := 3) rfl ?_); refine box_event ?hg (N := 3) ?hd (cs := #[.int .i64 a0_0, .slice A0_1 l0_1.length c0_1]) (t := 24) ?hr ?_; (case hd => rfl); (case hg => rfl); (case hr => first | (go_simp; done) | (go_simp; rfl)); intro gb216 hg w66 hbox hb; have n0_ := Aside0.mk (below_step (by repeat (first | (with_reducible first | exact HB.out | apply below_alloc | apply pw_below_drewN | apply below_drew1) | exact HB.out)) hb); have n1_ := Aside0.mk (hbox); have n2_ := Aside0.mk ((by rw [hg]; exact (below_size (by repeat (first | (with_reducible first | exact HB.out | apply below_alloc | apply pw_below_drewN | apply below_drew1) | exact HB.out))) : w.heap.size ≤ gb216)); have n3_ := Aside0.mk ((by rw [hg]; exact (below_size (by repeat (first | (with_reducible first | exact HB.out | apply below_alloc | apply pw_below_drewN | apply below_drew1) | exact HB.out))) : w.heap.size ≤ gb216)); clear HB; have HB := n0_; have BK216 := n1_; have GW216 := n2_; have GE216 := n3_; clear n0_ n1_ n2_ n3_; clear hb hbox hg) | ((with_reducible refine gate_dst (N := 6) rfl ?_); refine box_event ?hg (N := 6) ?hd (cs := #[.int .i64 0, .slice none 0 0]) (t := 24) ?hr ?_; (case hd => rfl); (case hg => rfl); (case hr => first | (go_simp; done) | (go_simp; rfl)); intro gb217 hg w67 hbox hb; have n0_ := Aside0.mk (blk_below (g := gb216) (o := .cells #[.int .i64 a0_0, .slice A0_1 l0_1.length c0_1] 24 (0, 0)) (by (with_reducible repeat (first | refine blk_drewN ?_ _ | refine blk_drew ?_ | refine blk_alloc ?_ _)); exact BK216.out) hb); have n1_ := Aside0.mk (below_step (by repeat (first | (with_reducible first | exact HB.out | apply below_alloc | apply pw_below_drewN | apply below_drew1 | refine below_set ?_ GE216.out) | exact HB.out)) hb); have n2_ := Aside0.mk (hbox); have n3_ := Aside0.mk ((by rw [hg]; exact (below_size (by repeat (first | (with_reducible first | exact HB.out | apply below_alloc | apply pw_below_drewN | apply below_drew1 | refine below_set ?_ GE216.out) | exact HB.out))) : w.heap.size ≤ gb217)); have n4_ := Aside0.mk ((by rw [hg]; exact (below_size (by repeat (first | (with_reducible first | exact HB.out | apply below_alloc | apply pw_below_drewN | apply below_drew1 | refine below_set ?_ GE216.out) | exact HB.out))) : w.heap.size ≤ gb217)); have n5_ := Aside0.mk ((by rw [hg]; exact Nat.ne_of_lt (blk_lt (g := gb216) (o := .cells #[.int .i64 a0_0, .slice A0_1 l0_1.length c0_1] 24 (0, 0)) (by (with_reducible repeat (first | refine blk_drewN ?_ _ | refine blk_drew ?_ | refine blk_alloc ?_ _)); exact BK216.out)) : gb216 ≠ gb217)); have n6_ := Aside0.mk ((by rw [hg]; exact Nat.ne_of_gt (blk_lt (g := gb216) (o := .cells #[.int .i64 a0_0, .slice A0_1 l0_1.length c0_1] 24 (0, 0)) (by (with_reducible repeat (first | refine blk_drewN ?_ _ | refine blk_drew ?_ | refine blk_alloc ?_ _)); exact BK216.out)) : gb217 ≠ gb216)); clear BK216; clear HB; have BK216 := n0_; have HB := n1_; have BK217 := n2_; have GW217 := n3_; have GE217 := n4_; have NB216_217 := n5_; have NB217_216 := n6_; clear n0_ n1_ n2_ n3_ n4_ n5_ n6_; clear hb hbox hg; have hnb68 := NB216_217.out; have hnc68 := NB217_216.out; have hcz69_0 : w67.cell? ⟨gb216, 0, none⟩ = some (.int .i64 a0_0) := (blk_cell BK216.out 0).trans rfl; have hcz69_1 : w67.cell? ⟨gb216, 1, none⟩ = some (.slice A0_1 l0_1.length c0_1) := (blk_cell BK216.out 1).trans rfl; have hfz69_0 := blk_frozen BK216.out 0; have hfz69_1 := blk_frozen BK216.out 1) | ((with_reducible refine gate_callee (f := 18) rfl ?_); refine goesL_ (some 13) rfl rfl Tryd.func18 (by kernel_rfl) rfl #[.agg #[.int .i64 a0_0, .slice A0_1 l0_1.length c0_1]] rfl (by (try simp only [List.map_toArray, List.map_cons, List.map_nil]); first | done | rfl | (simp only [List.length_drop, List.length_take]; rfl)) ?_; (with_reducible refine (linear_Validate.calls k a0_0 _ _ l0_1 t218 _ ?side1 ?side2 A4.out).mono ?_); (case side1 => repeat (first | exact (Kd.C_below HR0_1.out HB.out) | (with_reducible refine Kd.C_alloc ?_ _) | (with_reducible refine Kd.C_drewN ?_ _) | (with_reducible refine Kd.C_drew ?_))); (case side2 => exact HC0_1.out); rintro e w70 ⟨rfl, hb⟩; refine ⟨_, rfl, ?_⟩; have n0_ := Aside0.mk (blk_below (g := gb216) (o := .cells #[.int .i64 a0_0, .slice A0_1 l0_1.length c0_1] 24 (0, 0)) (by (with_reducible repeat (first | refine blk_drewN ?_ _ | refine blk_drew ?_ | refine blk_alloc ?_ _)); exact BK216.out) hb); have n1_ := Aside0.mk (blk_below (g := gb217) (o := .cells #[.int .i64 0, .slice none 0 0] 24 (0, 0)) (by (with_reducible repeat (first | refine blk_drewN ?_ _ | refine blk_drew ?_ | refine blk_alloc ?_ _)); exact BK217.out) hb); have n2_ := Aside0.mk (below_step (by repeat (first | (with_reducible first | exact HB.out | apply below_alloc | apply pw_below_drewN | apply below_drew1 | refine below_set ?_ GE216.out | refine below_set ?_ GE217.out) | exact HB.out)) hb); clear BK216; clear BK217; clear HB; have BK216 := n0_; have BK217 := n1_; have HB := n2_; clear n0_ n1_ n2_; (try clear hb); (try clear hb2); (try clear hk); (try clear hi); have hcz71_0 : w70.cell? ⟨gb217, 0, none⟩ = some (.int .i64 0) := (blk_cell BK217.out 0).trans rfl; have hcz71_1 : w70.cell? ⟨gb217, 1, none⟩ = some (.slice none 0 0) := (blk_cell BK217.out 1).trans rfl; have hfz71_0 := blk_frozen BK217.out 0; have hfz71_1 := blk_frozen BK217.out 1))
    refine bodyPost_ret (results_ct rfl _ _ gb217 24 #[.int .i64 0, .slice none 0 0] (0, 0) _ rfl (by (with_reducible repeat (first | refine blk_drewN ?_ _ | refine blk_drew ?_ | refine blk_alloc ?_ _)); refine blk_put (cs := #[.int .i64 0, .slice none 0 0]) ?_ 1 _ rfl; (with_reducible repeat (first | refine blk_drewN ?_ _ | refine blk_drew ?_ | refine blk_alloc ?_ _)); refine blk_put (cs := #[.int .i64 0, .slice none 0 0]) ?_ 0 _ rfl; (with_reducible repeat (first | refine blk_drewN ?_ _ | refine blk_drew ?_ | refine blk_alloc ?_ _)); exact BK217.out) Tryd.underlying24 rfl (by kernel_rfl)) rfl ?_
    exact ⟨_, by first | rfl | (simp [errW_none, errW_some] <;> rfl) | (simp [*, errW_none, errW_some] <;> rfl), by first | exact Kd.S_nil _ _ _ _ _ | exact Kd.N_nil _ _ _ _ _ | exact Kd.V_nil _ _ _ _ _ | exact Kd.Q_nil _ _ _ _ _ | exact Kd.R_nil _ _ _ _ _, by repeat (first | (with_reducible first | exact HB.out | apply below_alloc | apply pw_below_drewN | apply below_drew1 | refine below_set ?_ GE216.out | refine below_set ?_ GE217.out) | exact HB.out)⟩

end Go.Proofs.YtbioiodjdfcooaaDoor.P
