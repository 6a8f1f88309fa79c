/- familycheckref01_Substitute, printed: the walk. -/
import Derived.Test.YtbioiodjdfcooaaDoorVFPx0
import Derived.Test.YtbioiodjdfcooaaDoorVFPx8
import Derived.Test.YtbioiodjdfcooaaDoorVFPx9
import Derived.Test.YtbioiodjdfcooaaDoorVFYRefSub
import Derived.WalkMore
namespace Go.Proofs.YtbioiodjdfcooaaDoor.P
open Go.RowKit Go.Proofs.YtbioiodjdfcooaaDoorW.PrintWords Go.Proofs.YtbioiodjdfcooaaDoorW.PrintLast Go.Proofs.YtbioiodjdfcooaaDoorW.PrintMore
set_option linter.unusedVariables false
set_option linter.unusedSimpArgs false
open Build
def familycheckref01_Substitute.T10 : Bool × List (List Nat × List Nat) := (true, [([], []), ([0], [0]), ([], []), ([], []), ([3], [3]), ([], []), ([4, 5], [4, 5]), ([6], [6]), ([7], [7]), ([], []), ([9], [9]), ([], []), ([10, 11], [10, 11]), ([12], [12]), ([13], [13]), ([], []), ([14, 15], [14, 15]), ([16], [16]), ([], []), ([17, 18], [17, 18]), ([8, 19], [8, 19]), ([1, 2, 0, 1, 2, 3, 4, 5, 6, 7, 8, 9, 10, 11, 12, 13, 14, 15, 16, 17, 18, 19, 20], [1, 2]), ([21, 0, 1, 2, 3, 4, 5, 6, 7, 8, 9, 10, 11, 12, 13, 14, 15, 16, 17, 18, 19, 20], [21]), ([22, 20, 0, 1, 2, 3, 4, 5, 6, 7, 8, 9, 10, 11, 12, 13, 14, 15, 16, 17, 18, 19, 20], [20, 22])])
def familycheckref01_Substitute.B10 : List Nat := [0, 1, 0, 0, 8, 0, 56, 120, 248, 0, 512, 0, 3584, 7680, 15872, 0, 65024, 130560, 0, 523776, 1048568, 2097151, 4194303, 8388607]
theorem familycheckref01_Substitute.tab10 : rtab .any (opsOf Tryd.f44 10) = familycheckref01_Substitute.T10 := by kernel_rfl
theorem familycheckref01_Substitute.bits10 : waitsOk familycheckref01_Substitute.T10.2 familycheckref01_Substitute.B10 = true := by kernel_rfl
set_option maxHeartbeats 8000000 in
set_option maxRecDepth 100000 in
theorem familycheckref01_Substitute.calls (k : Nat) (a0_0 : Int) (A0_1 : Option Addr) (c0_1 : Nat) (l0_1 : List (S33)) (a1 : Int) (a2 : Int) (r1 : Int) (r2 : List (S33)) (r3 : Int) (w : World) (hr0_1 : Kd.C k33 w A0_1 l0_1.length l0_1) (hc0_1 : l0_1.length ≤ c0_1) (h : familycheckref01_Substitute.f k a0_0 l0_1 a1 a2 = some (r1, r2, r3)) :
    Calls Tryd.prog 44 #[.agg #[.int .i64 a0_0, .slice A0_1 l0_1.length c0_1], .int .i64 a1, .int .i64 a2] w fun e w' => ∃ v1_ : Value, e = .returned (.tuple #[.agg #[.int .i64 r1, v1_], .int .i64 r3]) ∧ Kd.S k33 33 w' w.heap.size (fun _ => True) v1_ r2 ∧ Below w.heap.size w w' := by
  have hu24 := Tryd.underlying24
  have HR0_1 := Aside0.mk hr0_1
  have HC0_1 := Aside0.mk hc0_1
  clear hr0_1 hc0_1
  have HB := Aside0.mk (Below.refl w.heap.size w)
  have H : ((familycheckref01_Validate.f k a0_0 l0_1).bind fun t248 => (if t248 = 0 then ((familycheckref01_within.f a1 0 (wrap64 (a0_0 - 1))).bind fun t249 => (if t249 = true then ((familycheckref01_within.f a2 0 1048576).bind fun t250 => (familycheckref01_Substitute.j0 k a1 a2 (!t250) a0_0 l0_1)) else (familycheckref01_Substitute.j0 k a1 a2 true a0_0 l0_1))) else (some (0, ([] : List (S33)), t248)))) = some (r1, r2, r3) := h
  clear h
  replace H := Option.bind_eq_some_iff.mp H
  obtain ⟨t248, A40, H⟩ := H
  replace H : (if t248 = 0 then ((familycheckref01_within.f a1 0 (wrap64 (a0_0 - 1))).bind fun t249 => (if t249 = true then ((familycheckref01_within.f a2 0 1048576).bind fun t250 => (familycheckref01_Substitute.j0 k a1 a2 (!t250) a0_0 l0_1)) else (familycheckref01_Substitute.j0 k a1 a2 true a0_0 l0_1))) else (some (0, ([] : List (S33)), t248))) = some (r1, r2, r3) := H
  have A4 := Aside0.mk A40
  clear A40
  by_cases c5 : t248 = 0
  · rw [if_pos c5] at H
    have c5b0 : (t248 == 0) = true := beq_iff_eq.mpr c5
    have c5b1 : (t248 != 0) = false := bne_eq_false_iff_eq.mpr c5
    clear c5
    have HC6 := Aside0.mk H
    clear H
    go_enter Tryd.func44, Tryd.ntmps44
    go_upto_region 4 with (first | ((with_reducible refine gate_dst (N := 3) rfl ?_); refine box_event ?hg (N := 3) ?hd (cs := #[.int .i64 a0_0, .slice A0_1 l0_1.length c0_1]) (t := 24) ?hr ?_; (case hd => rfl); (case hg => rfl); (case hr => first | (go_simp; done) | (go_simp; rfl)); intro gb246 hg w7 hbox hb; have n0_ := Aside0.mk (below_step (by repeat (first | (with_reducible first | exact HB.out | apply below_alloc | apply pw_below_drewN | apply below_drew1) | exact HB.out)) hb); have n1_ := Aside0.mk (hbox); have n2_ := Aside0.mk ((by rw [hg]; exact (below_size (by repeat (first | (with_reducible first | exact HB.out | apply below_alloc | apply pw_below_drewN | apply below_drew1) | exact HB.out))) : w.heap.size ≤ gb246)); have n3_ := Aside0.mk ((by rw [hg]; exact (below_size (by repeat (first | (with_reducible first | exact HB.out | apply below_alloc | apply pw_below_drewN | apply below_drew1) | exact HB.out))) : w.heap.size ≤ gb246)); clear HB; have HB := n0_; have BK246 := n1_; have GW246 := n2_; have GE246 := n3_; clear n0_ n1_ n2_ n3_; clear hb hbox hg) | ((with_reducible refine gate_dst (N := 6) rfl ?_); refine box_event ?hg (N := 6) ?hd (cs := #[.int .i64 0, .slice none 0 0]) (t := 24) ?hr ?_; (case hd => rfl); (case hg => rfl); (case hr => first | (go_simp; done) | (go_simp; rfl)); intro gb247 hg w8 hbox hb; have n0_ := Aside0.mk (blk_below (g := gb246) (o := .cells #[.int .i64 a0_0, .slice A0_1 l0_1.length c0_1] 24 (0, 0)) (by (with_reducible repeat (first | refine blk_drewN ?_ _ | refine blk_drew ?_ | refine blk_alloc ?_ _)); exact BK246.out) hb); have n1_ := Aside0.mk (below_step (by repeat (first | (with_reducible first | exact HB.out | apply below_alloc | apply pw_below_drewN | apply below_drew1 | refine below_set ?_ GE246.out) | exact HB.out)) hb); have n2_ := Aside0.mk (hbox); have n3_ := Aside0.mk ((by rw [hg]; exact (below_size (by repeat (first | (with_reducible first | exact HB.out | apply below_alloc | apply pw_below_drewN | apply below_drew1 | refine below_set ?_ GE246.out) | exact HB.out))) : w.heap.size ≤ gb247)); have n4_ := Aside0.mk ((by rw [hg]; exact (below_size (by repeat (first | (with_reducible first | exact HB.out | apply below_alloc | apply pw_below_drewN | apply below_drew1 | refine below_set ?_ GE246.out) | exact HB.out))) : w.heap.size ≤ gb247)); have n5_ := Aside0.mk ((by rw [hg]; exact Nat.ne_of_lt (blk_lt (g := gb246) (o := .cells #[.int .i64 a0_0, .slice A0_1 l0_1.length c0_1] 24 (0, 0)) (by (with_reducible repeat (first | refine blk_drewN ?_ _ | refine blk_drew ?_ | refine blk_alloc ?_ _)); exact BK246.out)) : gb246 ≠ gb247)); have n6_ := Aside0.mk ((by rw [hg]; exact Nat.ne_of_gt (blk_lt (g := gb246) (o := .cells #[.int .i64 a0_0, .slice A0_1 l0_1.length c0_1] 24 (0, 0)) (by (with_reducible repeat (first | refine blk_drewN ?_ _ | refine blk_drew ?_ | refine blk_alloc ?_ _)); exact BK246.out)) : gb247 ≠ gb246)); clear BK246; clear HB; have BK246 := n0_; have HB := n1_; have BK247 := n2_; have GW247 := n3_; have GE247 := n4_; have NB246_247 := n5_; have NB247_246 := n6_; clear n0_ n1_ n2_ n3_ n4_ n5_ n6_; clear hb hbox hg; have hnb9 := NB246_247.out; have hnc9 := NB247_246.out; have hcz10_0 : w8.cell? ⟨gb246, 0, none⟩ = some (.int .i64 a0_0) := (blk_cell BK246.out 0).trans rfl; have hcz10_1 : w8.cell? ⟨gb246, 1, none⟩ = some (.slice A0_1 l0_1.length c0_1) := (blk_cell BK246.out 1).trans rfl; have hfz10_0 := blk_frozen BK246.out 0; have hfz10_1 := blk_frozen BK246.out 1) | ((with_reducible refine gate_callee (f := 19) rfl ?_); refine goesL_ (some 12) rfl rfl Tryd.func19 (by kernel_rfl) rfl #[.agg #[.int .i64 a0_0, .slice A0_1 l0_1.length c0_1]] rfl (by (try simp only [List.map_toArray, List.map_cons, List.map_nil]); first | done | rfl | (simp only [List.length_drop, List.length_take]; rfl)) ?_; (with_reducible refine (familycheckref01_Validate.calls k a0_0 _ _ l0_1 t248 _ ?side1 ?side2 A4.out).mono ?_); (case side1 => repeat (first | exact (Kd.C_below HR0_1.out HB.out) | (with_reducible refine Kd.C_alloc ?_ _) | (with_reducible refine Kd.C_drewN ?_ _) | (with_reducible refine Kd.C_drew ?_))); (case side2 => exact HC0_1.out); rintro e w11 ⟨rfl, hb⟩; refine ⟨_, rfl, ?_⟩; have n0_ := Aside0.mk (blk_below (g := gb246) (o := .cells #[.int .i64 a0_0, .slice A0_1 l0_1.length c0_1] 24 (0, 0)) (by (with_reducible repeat (first | refine blk_drewN ?_ _ | refine blk_drew ?_ | refine blk_alloc ?_ _)); exact BK246.out) hb); have n1_ := Aside0.mk (blk_below (g := gb247) (o := .cells #[.int .i64 0, .slice none 0 0] 24 (0, 0)) (by (with_reducible repeat (first | refine blk_drewN ?_ _ | refine blk_drew ?_ | refine blk_alloc ?_ _)); exact BK247.out) hb); have n2_ := Aside0.mk (below_step (by repeat (first | (with_reducible first | exact HB.out | apply below_alloc | apply pw_below_drewN | apply below_drew1 | refine below_set ?_ GE246.out | refine below_set ?_ GE247.out) | exact HB.out)) hb); clear BK246; clear BK247; clear HB; have BK246 := n0_; have BK247 := n1_; have HB := n2_; clear n0_ n1_ n2_; (try clear hb); (try clear hb2); (try clear hk); (try clear hi)))
    (try simp only [Act.put, List.setIfInBounds_toArray, List.set_cons_zero, List.set_cons_succ])
    go_cut [27] (fun v27 wc => ∃ (kq : Nat) (x27_5 : Bool), v27 = .bool x27_5 ∧ Aside0 (familycheckref01_Substitute.j0 kq a1 a2 x27_5 a0_0 l0_1 = some (r1, r2, r3)) ∧ Aside0 (kq ≤ k) ∧ Aside0 (wc.heap[gb246]? = some (.cells #[.int .i64 a0_0, (.slice A0_1 l0_1.length c0_1)] 24 (0, 0))) ∧ Aside0 (wc.heap[gb247]? = some (.cells #[.int .i64 0, (.slice none 0 0)] 24 (0, 0))) ∧ Aside0 (Below w.heap.size w wc))
    case first =>
      have H := HC6.out
      clear HC6
      replace H := Option.bind_eq_some_iff.mp H
      obtain ⟨t249, A120, H⟩ := H
      replace H : (if t249 = true then ((familycheckref01_within.f a2 0 1048576).bind fun t250 => (familycheckref01_Substitute.j0 k a1 a2 (!t250) a0_0 l0_1)) else (familycheckref01_Substitute.j0 k a1 a2 true a0_0 l0_1)) = some (r1, r2, r3) := H
      have A12 := Aside0.mk A120
      clear A120
      by_cases c13 : t249 = true
      · subst c13
        have H1 : ((familycheckref01_within.f a2 0 1048576).bind fun t250 => (familycheckref01_Substitute.j0 k a1 a2 (!t250) a0_0 l0_1)) = some (r1, r2, r3) := by rw [if_pos rfl] at H; exact H
        clear H
        have H := H1
        clear H1
        replace H := Option.bind_eq_some_iff.mp H
        obtain ⟨t250, A140, H⟩ := H
        replace H : (familycheckref01_Substitute.j0 k a1 a2 (!t250) a0_0 l0_1) = some (r1, r2, r3) := H
        have A14 := Aside0.mk A140
        clear A140
        have H' := Aside0.mk H
        clear H
        have hnb15 := NB246_247.out
        have hnc15 := NB247_246.out
        have hcz16_0 : w11.cell? ⟨gb246, 0, none⟩ = some (.int .i64 a0_0) := (blk_cell BK246.out 0).trans rfl
        have hcz16_1 : w11.cell? ⟨gb246, 1, none⟩ = some (.slice A0_1 l0_1.length c0_1) := (blk_cell BK246.out 1).trans rfl
        have hfz16_0 := blk_frozen BK246.out 0
        have hfz16_1 := blk_frozen BK246.out 1
        go_wp2_with (first | ((with_reducible refine gate_callee (f := 50) rfl ?_); refine goesL_ (some 21) rfl rfl Tryd.func50 (by kernel_rfl) rfl #[.int .i64 a1, .int .i64 0, .int .i64 (wrap64 (a0_0 - 1))] rfl (by (try simp only [List.map_toArray, List.map_cons, List.map_nil]); first | done | rfl | (simp only [List.length_drop, List.length_take]; rfl)) ?_; (with_reducible refine (familycheckref01_within.calls a1 0 (wrap64 (a0_0 - 1)) true _ A12.out).mono ?_); rintro e w' ⟨rfl, ⟨nd, rfl⟩⟩; refine ⟨_, rfl, ?_⟩) | (go_at_call 50; (with_reducible refine (familycheckref01_within.calls a2 0 1048576 t250 _ A14.out).mono ?_); rintro e w' ⟨rfl, ⟨nd, rfl⟩⟩))
        go_meet
        case rel => exact ⟨_, (!t250), (by first | rfl | (simp; done) | (simp [*]; done)), H', ⟨by first | omega | exact Nat.le_refl _⟩, ⟨by (with_reducible repeat (first | refine blk_drewN ?_ _ | refine blk_drew ?_ | refine blk_alloc ?_ _)); exact BK246.out⟩, ⟨by (with_reducible repeat (first | refine blk_drewN ?_ _ | refine blk_drew ?_ | refine blk_alloc ?_ _)); exact BK247.out⟩, ⟨by repeat (first | (with_reducible first | exact HB.out | apply below_alloc | apply pw_below_drewN | apply below_drew1 | refine below_set ?_ GE246.out | refine below_set ?_ GE247.out) | exact HB.out)⟩⟩
      · replace c13 := Bool.eq_false_iff.mpr c13
        subst c13
        have H1 : (familycheckref01_Substitute.j0 k a1 a2 true a0_0 l0_1) = some (r1, r2, r3) := by rw [if_neg (show ¬ (false = true) by decide)] at H; exact H
        clear H
        have H := H1
        clear H1
        have H' := Aside0.mk H
        clear H
        have hnb17 := NB246_247.out
        have hnc17 := NB247_246.out
        have hcz18_0 : w11.cell? ⟨gb246, 0, none⟩ = some (.int .i64 a0_0) := (blk_cell BK246.out 0).trans rfl
        have hcz18_1 : w11.cell? ⟨gb246, 1, none⟩ = some (.slice A0_1 l0_1.length c0_1) := (blk_cell BK246.out 1).trans rfl
        have hfz18_0 := blk_frozen BK246.out 0
        have hfz18_1 := blk_frozen BK246.out 1
        go_wp2_with (first | ((with_reducible refine gate_callee (f := 50) rfl ?_); refine goesL_ (some 21) rfl rfl Tryd.func50 (by kernel_rfl) rfl #[.int .i64 a1, .int .i64 0, .int .i64 (wrap64 (a0_0 - 1))] rfl (by (try simp only [List.map_toArray, List.map_cons, List.map_nil]); first | done | rfl | (simp only [List.length_drop, List.length_take]; rfl)) ?_; (with_reducible refine (familycheckref01_within.calls a1 0 (wrap64 (a0_0 - 1)) false _ A12.out).mono ?_); rintro e w' ⟨rfl, ⟨nd, rfl⟩⟩; refine ⟨_, rfl, ?_⟩))
        go_meet
        case rel => exact ⟨_, (true), (by first | rfl | (simp; done) | (simp [*]; done)), H', ⟨by first | omega | exact Nat.le_refl _⟩, ⟨by (with_reducible repeat (first | refine blk_drewN ?_ _ | refine blk_drew ?_ | refine blk_alloc ?_ _)); exact BK246.out⟩, ⟨by (with_reducible repeat (first | refine blk_drewN ?_ _ | refine blk_drew ?_ | refine blk_alloc ?_ _)); exact BK247.out⟩, ⟨by repeat (first | (with_reducible first | exact HB.out | apply below_alloc | apply pw_below_drewN | apply below_drew1 | refine below_set ?_ GE246.out | refine below_set ?_ GE247.out) | exact HB.out)⟩⟩
    case rest =>
      clear HC6
      try clear c1
      try clear p2
      try clear c4
      try clear c5
      try clear c5b0
      try clear c5b1
      try clear p6
      try clear c9
      try clear c13
      try clear c15
      try clear c17
      try clear hcz10_0
      try clear hcz10_1
      try clear hcz16_0
      try clear hcz16_1
      try clear hcz18_0
      try clear hcz18_1
      try clear hfz10_0
      try clear hfz10_1
      try clear hfz16_0
      try clear hfz16_1
      try clear hfz18_0
      try clear hfz18_1
      obtain ⟨kq, x27_5, rfl, HA, HJ5, BK246, BK247, HB⟩ := hcut
      cases kq with
      | zero => exact absurd HA.out (by simp [familycheckref01_Substitute.j0])
      | succ kj5 =>
        have H := HA.out
        clear HA
        simp only [familycheckref01_Substitute.j0] at H
        by_cases c19 : x27_5 = true
        · subst c19
          have H1 : (some (0, ([] : List (S33)), 1)) = some (r1, r2, r3) := by rw [if_pos rfl] at H; exact H
          clear H
          have H := H1
          clear H1
          simp only [Option.some.injEq, Prod.mk.injEq] at H
          obtain ⟨rfl, rfl, rfl⟩ := H
          have hnb20 := NB247_246.out
          have hnc20 := NB246_247.out
          have hcz21_0 : wc.cell? ⟨gb247, 0, none⟩ = some (.int .i64 0) := (blk_cell BK247.out 0).trans rfl
          have hcz21_1 : wc.cell? ⟨gb247, 1, none⟩ = some (.slice none 0 0) := (blk_cell BK247.out 1).trans rfl
          have hfz21_0 := blk_frozen BK247.out 0
          have hfz21_1 := blk_frozen BK247.out 1
          go_wp2
          refine bodyPost_ret (results_ct rfl _ _ gb247 24 #[.int .i64 0, .slice none 0 0] (0, 0) _ rfl (by (with_reducible repeat (first | refine blk_drewN ?_ _ | refine blk_drew ?_ | refine blk_alloc ?_ _)); refine blk_put (cs := #[.int .i64 0, .slice none 0 0]) ?_ 1 _ rfl; (with_reducible repeat (first | refine blk_drewN ?_ _ | refine blk_drew ?_ | refine blk_alloc ?_ _)); refine blk_put (cs := #[.int .i64 0, .slice none 0 0]) ?_ 0 _ rfl; (with_reducible repeat (first | refine blk_drewN ?_ _ | refine blk_drew ?_ | refine blk_alloc ?_ _)); exact BK247.out) Tryd.underlying24 rfl (by kernel_rfl)) rfl ?_
          exact ⟨_, by first | rfl | (simp [errW_none, errW_some] <;> rfl) | (simp [*, errW_none, errW_some] <;> rfl), by first | exact Kd.S_nil _ _ _ _ _ | exact Kd.N_nil _ _ _ _ _ | exact Kd.V_nil _ _ _ _ _ | exact Kd.Q_nil _ _ _ _ _ | exact Kd.R_nil _ _ _ _ _, by repeat (first | (with_reducible first | exact HB.out | apply below_alloc | apply pw_below_drewN | apply below_drew1 | refine below_set ?_ GE246.out | refine below_set ?_ GE247.out) | exact HB.out)⟩
        · replace c19 := Bool.eq_false_iff.mpr c19
          subst c19
          have H1 : ((familycheckref01_CopySystem.f kj5 a0_0 l0_1).bind fun bt251 => (familycheckref01_Substitute.l0 kj5 a1 a2 0 bt251.1 bt251.2)) = some (r1, r2, r3) := by rw [if_neg (show ¬ (false = true) by decide)] at H; exact H
          clear H
          have H := H1
          clear H1
          replace H := Option.bind_eq_some_iff.mp H
          obtain ⟨⟨t251, t252⟩, A220, H⟩ := H
          replace H : (familycheckref01_Substitute.l0 kj5 a1 a2 0 t251 t252) = some (r1, r2, r3) := H
          have A22 := Aside0.mk A220
          clear A220
          have H' := Aside0.mk H
          clear H
          have hnb23 := NB246_247.out
          have hnc23 := NB247_246.out
          have hcz24_0 : wc.cell? ⟨gb246, 0, none⟩ = some (.int .i64 a0_0) := (blk_cell BK246.out 0).trans rfl
          have hcz24_1 : wc.cell? ⟨gb246, 1, none⟩ = some (.slice A0_1 l0_1.length c0_1) := (blk_cell BK246.out 1).trans rfl
          have hfz24_0 := blk_frozen BK246.out 0
          have hfz24_1 := blk_frozen BK246.out 1
          go_wp2_with (first | ((with_reducible refine gate_callee (f := 17) rfl ?_); refine goesL_ (some 30) rfl rfl Tryd.func17 (by kernel_rfl) rfl #[.agg #[.int .i64 a0_0, .slice A0_1 l0_1.length c0_1]] rfl (by (try simp only [List.map_toArray, List.map_cons, List.map_nil]); first | done | rfl | (simp only [List.length_drop, List.length_take]; rfl)) ?_; (with_reducible refine (familycheckref01_CopySystem.calls kj5 a0_0 _ _ l0_1 t251 t252 _ ?side1 ?side2 A22.out).mono ?_); (case side1 => repeat (first | exact (Kd.C_below HR0_1.out HB.out) | (with_reducible refine Kd.C_alloc ?_ _) | (with_reducible refine Kd.C_drewN ?_ _) | (with_reducible refine Kd.C_drew ?_))); (case side2 => exact HC0_1.out); rintro e w25 ⟨v253, rfl, ho0, hb⟩; refine ⟨_, rfl, ?_⟩; have n0_ := Aside0.mk (Kd.S_lower ho0 (below_size (by repeat (first | (with_reducible first | exact HB.out | apply below_alloc | apply pw_below_drewN | apply below_drew1 | refine below_set ?_ GE246.out | refine below_set ?_ GE247.out) | exact HB.out)))); have n1_ := Aside0.mk (blk_below (g := gb246) (o := .cells #[.int .i64 a0_0, .slice A0_1 l0_1.length c0_1] 24 (0, 0)) (by (with_reducible repeat (first | refine blk_drewN ?_ _ | refine blk_drew ?_ | refine blk_alloc ?_ _)); exact BK246.out) hb); have n2_ := Aside0.mk (blk_below (g := gb247) (o := .cells #[.int .i64 0, .slice none 0 0] 24 (0, 0)) (by (with_reducible repeat (first | refine blk_drewN ?_ _ | refine blk_drew ?_ | refine blk_alloc ?_ _)); exact BK247.out) hb); have n3_ := Aside0.mk (below_step (by repeat (first | (with_reducible first | exact HB.out | apply below_alloc | apply pw_below_drewN | apply below_drew1 | refine below_set ?_ GE246.out | refine below_set ?_ GE247.out) | exact HB.out)) hb); clear BK246; clear BK247; clear HB; have HO254 := n0_; have BK246 := n1_; have BK247 := n2_; have HB := n3_; clear n0_ n1_ n2_ n3_; (try clear hb); (try clear hb2); (try clear hk); (try clear hi); (try clear ho0)) | ((with_reducible refine gate_dst (N := 9) rfl ?_); refine box_event ?hg (N := 9) ?hd (cs := #[.int .i64 0, .slice none 0 0]) (t := 24) ?hr ?_; (case hd => rfl); (case hg => rfl); (case hr => first | (go_simp; done) | (go_simp; rfl)); intro gb255 hg w26 hbox hb; have n0_ := Aside0.mk (Kd.S_below (by (with_reducible repeat (first | apply Kd.S_alloc | apply Kd.S_drewN | apply Kd.S_drew)); exact HO254.out) hb); have n1_ := Aside0.mk (blk_below (g := gb246) (o := .cells #[.int .i64 a0_0, .slice A0_1 l0_1.length c0_1] 24 (0, 0)) (by (with_reducible repeat (first | refine blk_drewN ?_ _ | refine blk_drew ?_ | refine blk_alloc ?_ _)); exact BK246.out) hb); have n2_ := Aside0.mk (blk_below (g := gb247) (o := .cells #[.int .i64 0, .slice none 0 0] 24 (0, 0)) (by (with_reducible repeat (first | refine blk_drewN ?_ _ | refine blk_drew ?_ | refine blk_alloc ?_ _)); exact BK247.out) hb); have n3_ := Aside0.mk (below_step (by repeat (first | (with_reducible first | exact HB.out | apply below_alloc | apply pw_below_drewN | apply below_drew1 | refine below_set ?_ GE246.out | refine below_set ?_ GE247.out) | exact HB.out)) hb); have n4_ := Aside0.mk (hbox); have n5_ := Aside0.mk ((by rw [hg]; exact (below_size (by repeat (first | (with_reducible first | exact HB.out | apply below_alloc | apply pw_below_drewN | apply below_drew1 | refine below_set ?_ GE246.out | refine below_set ?_ GE247.out) | exact HB.out))) : w.heap.size ≤ gb255)); have n6_ := Aside0.mk ((by rw [hg]; exact (below_size (by repeat (first | (with_reducible first | exact HB.out | apply below_alloc | apply pw_below_drewN | apply below_drew1 | refine below_set ?_ GE246.out | refine below_set ?_ GE247.out) | exact HB.out))) : w.heap.size ≤ gb255)); have n7_ := Aside0.mk ((by rw [hg]; exact Nat.ne_of_lt (blk_lt (g := gb246) (o := .cells #[.int .i64 a0_0, .slice A0_1 l0_1.length c0_1] 24 (0, 0)) (by (with_reducible repeat (first | refine blk_drewN ?_ _ | refine blk_drew ?_ | refine blk_alloc ?_ _)); exact BK246.out)) : gb246 ≠ gb255)); have n8_ := Aside0.mk ((by rw [hg]; exact Nat.ne_of_gt (blk_lt (g := gb246) (o := .cells #[.int .i64 a0_0, .slice A0_1 l0_1.length c0_1] 24 (0, 0)) (by (with_reducible repeat (first | refine blk_drewN ?_ _ | refine blk_drew ?_ | refine blk_alloc ?_ _)); exact BK246.out)) : gb255 ≠ gb246)); have n9_ := Aside0.mk ((by rw [hg]; exact Nat.ne_of_lt (blk_lt (g := gb247) (o := .cells #[.int .i64 0, .slice none 0 0] 24 (0, 0)) (by (with_reducible repeat (first | refine blk_drewN ?_ _ | refine blk_drew ?_ | refine blk_alloc ?_ _)); exact BK247.out)) : gb247 ≠ gb255)); have n10_ := Aside0.mk ((by rw [hg]; exact Nat.ne_of_gt (blk_lt (g := gb247) (o := .cells #[.int .i64 0, .slice none 0 0] 24 (0, 0)) (by (with_reducible repeat (first | refine blk_drewN ?_ _ | refine blk_drew ?_ | refine blk_alloc ?_ _)); exact BK247.out)) : gb255 ≠ gb247)); clear HO254; clear BK246; clear BK247; clear HB; have HO254 := n0_; have BK246 := n1_; have BK247 := n2_; have HB := n3_; have BK255 := n4_; have GW255 := n5_; have GE255 := n6_; have NB246_255 := n7_; have NB255_246 := n8_; have NB247_255 := n9_; have NB255_247 := n10_; clear n0_ n1_ n2_ n3_ n4_ n5_ n6_ n7_ n8_ n9_ n10_; clear hb hbox hg; have hnb27 := NB255_246.out; have hnc27 := NB246_255.out; have hnb28 := NB255_247.out; have hnc28 := NB247_255.out; have hcz29_0 : w26.cell? ⟨gb255, 0, none⟩ = some (.int .i64 0) := (blk_cell BK255.out 0).trans rfl; have hcz29_1 : w26.cell? ⟨gb255, 1, none⟩ = some (.slice none 0 0) := (blk_cell BK255.out 1).trans rfl; have hfz29_0 := blk_frozen BK255.out 0; have hfz29_1 := blk_frozen BK255.out 1; obtain ⟨Ao30, co30, eo30⟩ := Kd.S_slice HO254.out; subst eo30))
          go_loopg [10] kj5 (fun kq v10 w' => ∃ (x10_2 : Int) (x256001_2 : List (S33)) (u256001 : Value), v10 = .int .i64 x10_2 ∧ Aside0 (familycheckref01_Substitute.l0 kq a1 a2 x10_2 t251 x256001_2 = some (r1, r2, r3)) ∧ Aside0 (kq ≤ kj5) ∧ Aside0 (Kd.S k33 33 w' w.heap.size (fun _ => True) u256001 x256001_2) ∧ Aside0 (w'.heap[gb246]? = some (.cells #[.int .i64 a0_0, (.slice A0_1 l0_1.length c0_1)] 24 (0, 0))) ∧ Aside0 (w'.heap[gb247]? = some (.cells #[.int .i64 0, (.slice none 0 0)] 24 (0, 0))) ∧ Aside0 (w'.heap[gb255]? = some (.cells #[.int .i64 t251, u256001] 24 (0, 0))) ∧ Aside0 (Below w.heap.size w w'))
          case atStart => exact ⟨(0), (t252), (.slice Ao30 t252.length co30), (by first | rfl | (simp; done) | (simp [*]; done)), H', ⟨Nat.le_refl _⟩, ⟨by (with_reducible repeat (first | apply Kd.S_alloc | apply Kd.S_drewN | apply Kd.S_drew)); exact Kd.S_mono (Kd.S_far (p := ⟨gb255, 1, none⟩) (Kd.S_far (p := ⟨gb255, 0, none⟩) (Kd.S_types HO254.out BK255.out (by decide)) (fun _ hk => hk.2) (.int .i64 t251)) (fun _ hk => hk.2) (.slice Ao30 t252.length co30)) (fun _ hk => trivial)⟩, ⟨by (with_reducible repeat (first | refine blk_drewN ?_ _ | refine blk_drew ?_ | refine blk_alloc ?_ _)); refine blk_far ?_ NB246_255.out _; (with_reducible repeat (first | refine blk_drewN ?_ _ | refine blk_drew ?_ | refine blk_alloc ?_ _)); refine blk_far ?_ NB246_255.out _; (with_reducible repeat (first | refine blk_drewN ?_ _ | refine blk_drew ?_ | refine blk_alloc ?_ _)); exact BK246.out⟩, ⟨by (with_reducible repeat (first | refine blk_drewN ?_ _ | refine blk_drew ?_ | refine blk_alloc ?_ _)); refine blk_far ?_ NB247_255.out _; (with_reducible repeat (first | refine blk_drewN ?_ _ | refine blk_drew ?_ | refine blk_alloc ?_ _)); refine blk_far ?_ NB247_255.out _; (with_reducible repeat (first | refine blk_drewN ?_ _ | refine blk_drew ?_ | refine blk_alloc ?_ _)); exact BK247.out⟩, ⟨by (with_reducible repeat (first | refine blk_drewN ?_ _ | refine blk_drew ?_ | refine blk_alloc ?_ _)); refine blk_put (cs := #[.int .i64 t251, .slice none 0 0]) ?_ 1 _ rfl; (with_reducible repeat (first | refine blk_drewN ?_ _ | refine blk_drew ?_ | refine blk_alloc ?_ _)); refine blk_put (cs := #[.int .i64 0, .slice none 0 0]) ?_ 0 _ rfl; (with_reducible repeat (first | refine blk_drewN ?_ _ | refine blk_drew ?_ | refine blk_alloc ?_ _)); exact BK255.out⟩, ⟨by repeat (first | (with_reducible first | exact HB.out | apply below_alloc | apply pw_below_drewN | apply below_drew1 | refine below_set ?_ GE246.out | refine below_set ?_ GE247.out | refine below_set ?_ GE255.out) | exact HB.out)⟩⟩
          case round =>
            clear H'
            try clear c1
            try clear c2
            try clear p2
            try clear c4
            try clear c5
            try clear c5b0
            try clear c5b1
            try clear p6
            try clear c9
            try clear c13
            try clear c15
            try clear c17
            try clear c19
            try clear c20
            try clear c23
            try clear c27
            try clear c28
            try clear hcz10_0
            try clear hcz10_1
            try clear hcz16_0
            try clear hcz16_1
            try clear hcz18_0
            try clear hcz18_1
            try clear hcz21_0
            try clear hcz21_1
            try clear hcz24_0
            try clear hcz24_1
            try clear hcz29_0
            try clear hcz29_1
            try clear hfz10_0
            try clear hfz10_1
            try clear hfz16_0
            try clear hfz16_1
            try clear hfz18_0
            try clear hfz18_1
            try clear hfz21_0
            try clear hfz21_1
            try clear hfz24_0
            try clear hfz24_1
            try clear hfz29_0
            try clear hfz29_1
            try clear p2
            try clear p6
            obtain ⟨x10_2, x256001_2, u256001, rfl, HA, HK2, HO_256001, BK246, BK247, BK255, HB⟩ := hrel
            cases gk with
            | zero => exact absurd HA.out (by simp [familycheckref01_Substitute.l0])
            | succ k2 =>
              have H := HA.out
              clear HA
              simp only [familycheckref01_Substitute.l0] at H
              by_cases c31 : x10_2 < (x256001_2.length : Int)
              · rw [if_pos c31] at H
                have c31b0 : decide (x10_2 < (x256001_2.length : Int)) = true := decide_eq_true c31
                clear c31
                by_cases c32 : 0 ≤ x10_2
                · rw [if_pos c32] at H
                  have c32b0 : decide (0 ≤ x10_2) = true := decide_eq_true c32
                  clear c32
                  by_cases c33 : 0 ≤ a1
                  · rw [if_pos c33] at H
                    have c33b0 : decide (0 ≤ a1) = true := decide_eq_true c33
                    clear c33
                    by_cases c34 : a1 < (((rd_T33 x256001_2 x10_2).f0).length : Int)
                    · rw [if_pos c34] at H
                      have c34b0 : decide (a1 < (((rd_T33 x256001_2 x10_2).f0).length : Int)) = true := decide_eq_true c34
                      clear c34
                      obtain ⟨y259, hy259⟩ : ∃ y_ : List (S33), y_ = (x256001_2.set (x10_2 : Int).toNat (⟨(rd_T33 x256001_2 x10_2).f0, wrap64 (((rd_T33 x256001_2 x10_2).f1) + (wrap64 ((rd ((rd_T33 x256001_2 x10_2).f0) a1) * a2)))⟩ : S33)) := ⟨_, rfl⟩
                      replace H : (if a1 < (((rd_T33 y259 x10_2).f0).length : Int) then (familycheckref01_Substitute.l0 k2 a1 a2 (wrap64 (x10_2 + 1)) t251 (y259.set (x10_2 : Int).toNat (⟨(((rd_T33 y259 x10_2).f0).set (a1 : Int).toNat 0), (rd_T33 y259 x10_2).f1⟩ : S33))) else (none)) = some (r1, r2, r3) := by first | (rw [hy259]; with_reducible exact H) | (have H2_ := (Option.bind_some _ _).symm.trans H; rw [hy259]; with_reducible exact H2_) | (have H2_ := (Option.bind_some _ _).symm.trans H; with_reducible exact H2_) | with_reducible exact H | (rw [hy259]; exact H) | exact H
                      have Ny259 := Aside0.mk hy259
                      clear hy259
                      by_cases c36 : a1 < (((rd_T33 y259 x10_2).f0).length : Int)
                      · rw [if_pos c36] at H
                        have c36b0 : decide (a1 < (((rd_T33 y259 x10_2).f0).length : Int)) = true := decide_eq_true c36
                        clear c36
                        obtain ⟨y261, hy261⟩ : ∃ y_ : List Int, y_ = (((rd_T33 y259 x10_2).f0).set (a1 : Int).toNat 0) := ⟨_, rfl⟩
                        replace H : (familycheckref01_Substitute.l0 k2 a1 a2 (wrap64 (x10_2 + 1)) t251 (y259.set (x10_2 : Int).toNat (⟨y261, (rd_T33 y259 x10_2).f1⟩ : S33))) = some (r1, r2, r3) := by first | (rw [hy261]; with_reducible exact H) | (have H2_ := (Option.bind_some _ _).symm.trans H; rw [hy261]; with_reducible exact H2_) | (have H2_ := (Option.bind_some _ _).symm.trans H; with_reducible exact H2_) | with_reducible exact H | (rw [hy261]; exact H) | exact H
                        have Ny261 := Aside0.mk hy261
                        clear hy261
                        obtain ⟨y263, hy263⟩ : ∃ y_ : List (S33), y_ = (y259.set (x10_2 : Int).toNat (⟨y261, (rd_T33 y259 x10_2).f1⟩ : S33)) := ⟨_, rfl⟩
                        replace H : (familycheckref01_Substitute.l0 k2 a1 a2 (wrap64 (x10_2 + 1)) t251 y263) = some (r1, r2, r3) := by first | (rw [hy263]; with_reducible exact H) | (have H2_ := (Option.bind_some _ _).symm.trans H; rw [hy263]; with_reducible exact H2_) | (have H2_ := (Option.bind_some _ _).symm.trans H; with_reducible exact H2_) | with_reducible exact H | (rw [hy263]; exact H) | exact H
                        have Ny263 := Aside0.mk hy263
                        clear hy263
                        have H' := Aside0.mk H
                        clear H
                        have hnb38 := NB255_246.out
                        have hnc38 := NB246_255.out
                        have hnb39 := NB255_247.out
                        have hnc39 := NB247_255.out
                        have hcz40_0 : wr.cell? ⟨gb255, 0, none⟩ = some (.int .i64 t251) := (blk_cell BK255.out 0).trans rfl
                        have hcz40_1 : wr.cell? ⟨gb255, 1, none⟩ = some (u256001) := (blk_cell BK255.out 1).trans rfl
                        have hfz40_0 := blk_frozen BK255.out 0
                        have hfz40_1 := blk_frozen BK255.out 1
                        obtain ⟨Ao41, co41, eo41⟩ := Kd.S_slice HO_256001.out
                        subst eo41
                        try go_wp2
                        have n0_ := Aside0.mk (Kd.S_drew HO_256001.out)
                        have n1_ := Aside0.mk (blk_drew BK246.out)
                        have n2_ := Aside0.mk (blk_drew BK247.out)
                        have n3_ := Aside0.mk (blk_drew BK255.out)
                        have n4_ := Aside0.mk (below_drew1 HB.out)
                        clear HO_256001
                        clear BK246
                        clear BK247
                        clear BK255
                        clear HB
                        have HO_256001 := n0_
                        have BK246 := n1_
                        have BK247 := n2_
                        have BK255 := n3_
                        have HB := n4_
                        clear n0_ n1_ n2_ n3_ n4_
                        have p256 : 0 ≤ (x10_2 : Int) := of_decide_eq_true (by first | (with_reducible assumption) | assumption)
                        have q256 : x10_2 < (x256001_2.length : Int) := of_decide_eq_true (by first | (with_reducible assumption) | assumption)
                        obtain ⟨ad256, A256_0, c256_0, e256, hx256_0, hx256_1, hl256_0, hi256_0⟩ := at_T33 (Kd.S_reads' HO_256001.out).2.2 x10_2 p256 q256
                        cases e256
                        obtain ⟨ce256, hce256, hMe256, hcc256⟩ := Kd.S_get HO_256001.out z33 x10_2 p256 (by first | exact q256 | exact of_decide_eq_true (by first | (with_reducible assumption) | assumption) | (have e_ := (Kd.S_reads' HO_256001.out).1; omega))
                        obtain ⟨ve256_0, rfl, ge256_0⟩ := k33_openM hMe256
                        have hv256_0 := hcc256 0 _ rfl
                        rw [Nat.add_zero] at hv256_0
                        replace hv256_0 := Option.some.inj (hv256_0.symm.trans hx256_0)
                        rw [hv256_0] at ge256_0
                        have HL256_0 := Aside0.mk (show Kd.R (Kd.int .i64) 3 _ _ _ _ ((rd_T33 x256001_2 x10_2).f0) from ge256_0)
                        clear hv256_0 ge256_0
                        have HX256_0 := Aside0.mk hx256_0
                        clear hcc256 hce256
                        have HR256_0 := Aside0.mk hi256_0
                        have HC256_0 := Aside0.mk hl256_0
                        clear hi256_0 hl256_0
                        replace p256 := eq_true p256
                        replace q256 := eq_true q256
                        have p257 : 0 ≤ (x10_2 : Int) := of_decide_eq_true (by first | (with_reducible assumption) | assumption)
                        have q257 : x10_2 < (x256001_2.length : Int) := of_decide_eq_true (by first | (with_reducible assumption) | assumption)
                        obtain ⟨ad257, A257_0, c257_0, e257, hx257_0, hx257_1, hl257_0, hi257_0⟩ := at_T33 (Kd.S_reads' HO_256001.out).2.2 x10_2 p257 q257
                        obtain rfl : ad256 = ad257 := (by injection e257)
                        obtain ⟨ce257, hce257, hMe257, hcc257⟩ := Kd.S_get HO_256001.out z33 x10_2 p257 (by first | exact q257 | exact of_decide_eq_true (by first | (with_reducible assumption) | assumption) | (have e_ := (Kd.S_reads' HO_256001.out).1; omega))
                        obtain ⟨ve257_0, rfl, ge257_0⟩ := k33_openM hMe257
                        have hv257_0 := hcc257 0 _ rfl
                        rw [Nat.add_zero] at hv257_0
                        replace hv257_0 := Option.some.inj (hv257_0.symm.trans hx257_0)
                        rw [hv257_0] at ge257_0
                        have HL257_0 := Aside0.mk (show Kd.R (Kd.int .i64) 3 _ _ _ _ ((rd_T33 x256001_2 x10_2).f0) from ge257_0)
                        clear hv257_0 ge257_0
                        have HX257_0 := Aside0.mk hx257_0
                        clear hcc257 hce257
                        have HR257_0 := Aside0.mk hi257_0
                        have HC257_0 := Aside0.mk hl257_0
                        clear hi257_0 hl257_0
                        replace p257 := eq_true p257
                        replace q257 := eq_true q257
                        have ea_ := Option.some.inj (hx256_0.symm.trans hx257_0)
                        injection ea_ with ea_ en_ ec_
                        subst ea_
                        subst ec_
                        clear en_
                        have p258 : 0 ≤ (a1 : Int) := of_decide_eq_true (by first | (with_reducible assumption) | assumption)
                        have q258 : a1 < (((rd_T33 x256001_2 x10_2).f0).length : Int) := of_decide_eq_true (by first | (with_reducible assumption) | assumption)
                        obtain ⟨ad258, e258, hx258_0⟩ := Kd.at_int (by repeat (first | (with_reducible exact HR257_0.out) | (with_reducible refine Kd.C_alloc ?_ _) | (with_reducible refine Kd.C_drewN ?_ _) | (with_reducible refine Kd.C_drew ?_) | exact HR257_0.out)) a1 p258 q258
                        cases e258
                        replace p258 := eq_true p258
                        replace q258 := eq_true q258
                        have p35 : 0 ≤ (x10_2 : Int) := of_decide_eq_true (by first | (with_reducible assumption) | assumption)
                        have q35 : (x10_2 : Int) < ((x256001_2.length : Int) : Int) := of_decide_eq_true (by first | (with_reducible assumption) | assumption)
                        obtain ⟨go35, co35, eo35, gb35, gl35, cl35, HG35⟩ := Kd.S_form HO_256001.out (by omega)
                        (first | cases eo35 | (injection eo35 with ea_ en_ ec_; (first | subst ea_ | (injection ea_ with ea_; subst ea_)); subst ec_; clear en_))
                        have GB35 := Aside0.mk gb35
                        have GG35 := Aside0.mk HG35
                        clear gb35 gl35 HG35
                        (first | simp only [add_plain] at hx256_0 | skip)
                        (first | simp only [add_plain] at hx256_1 | skip)
                        (first | simp only [add_plain] at hx257_0 | skip)
                        (first | simp only [add_plain] at hx257_1 | skip)
                        obtain ⟨_, ce35, hcl35, hM35, hcc35, hfr35, _, _⟩ := Kd.S_elem HO_256001.out z33 (x10_2 : Int) p35 q35
                        obtain ⟨ve35_0, rfl, ge35_0⟩ := k33_openM hM35
                        have hx35_0 : World.cell? _ ⟨go35, (x10_2 : Int).toNat * 2, none⟩ = some (ve35_0) := hcc35 0 _ rfl
                        have hx35_1 : World.cell? _ ⟨go35, (x10_2 : Int).toNat * 2 + 1, none⟩ = some (.int .i64 ((rd_T33 x256001_2 x10_2).f1)) := hcc35 1 _ rfl
                        have hf35_0 : World.frozen? _ ⟨go35, (x10_2 : Int).toNat * 2, none⟩ = false := hfr35 0
                        have hf35_1 : World.frozen? _ ⟨go35, (x10_2 : Int).toNat * 2 + 1, none⟩ = false := hfr35 1
                        clear hcl35 hcc35 hfr35 hM35
                        replace p35 := eq_true p35
                        replace q35 := eq_true q35
                        have HX43 := Aside0.mk (show Kd.S k33 33 _ w.heap.size (fun k_ => ((fun _ => True)) k_ ∧ ¬ (fun _ => False) k_) (.slice (some ⟨go35, 0, none⟩) x256001_2.length co41) x256001_2 from (by exact Kd.S_mono HO_256001.out (fun k_ hk => ⟨trivial, fun e_ => e_⟩)))
                        obtain ⟨oki43, ce43, hcl43, hM43, hcc43, hfr43, hoki43, hH43⟩ := Kd.S_elem HX43.out z33 (x10_2 : Int) (of_decide_eq_true (by first | (with_reducible assumption) | assumption)) (by have h_ : (x10_2 : Int) < ((x256001_2.length : Int) : Int) := of_decide_eq_true (by first | (with_reducible assumption) | assumption); first | exact h_ | (have e_ := (Kd.S_reads' HO_256001.out).1; omega) | simpa using h_)
                        obtain ⟨ve43_0, rfl, ge43_0⟩ := k33_openM hM43
                        have HP43 := (Kd.S_seg hH43 (of_decide_eq_true (by first | (with_reducible assumption) | assumption)) (by have h_ : (x10_2 : Int) < ((x256001_2.length : Int) : Int) := of_decide_eq_true (by first | (with_reducible assumption) | assumption); first | exact h_ | (have e_ := (Kd.S_reads' HO_256001.out).1; omega) | simpa using h_) (seg := [.int .i64 (wrap64 (((rd_T33 x256001_2 x10_2).f1) + (wrap64 ((rd ((rd_T33 x256001_2 x10_2).f0) a1) * a2))))]) (j := 1) (show 2 ≤ 2 from by decide) (x' := (⟨(rd_T33 x256001_2 x10_2).f0, wrap64 (((rd_T33 x256001_2 x10_2).f1) + (wrap64 ((rd ((rd_T33 x256001_2 x10_2).f0) a1) * a2)))⟩ : S33)) (k33_mkM _ _ _ (⟨(rd_T33 x256001_2 x10_2).f0, wrap64 (((rd_T33 x256001_2 x10_2).f1) + (wrap64 ((rd ((rd_T33 x256001_2 x10_2).f0) a1) * a2)))⟩ : S33) ge43_0) (fun _ hk => Or.inl hk) (fun _ hk => hk.elim)).1
                        rw [← Ny259.out] at HP43
                        have HQ43 := Aside0.mk HP43
                        clear hcl43 hcc43 hfr43 hM43 HP43
                        refine start_ (n := 24) (S := fun w' => w'.cell? ⟨gb255, 0, none⟩ = some (.int .i64 t251) ∧ w'.cell? ⟨gb255, 1, none⟩ = some (.slice (some ⟨go35, 0, none⟩) x256001_2.length co41) ∧ w'.cell? ⟨go35, ((x10_2).toNat * 2), none⟩ = some (.slice (some ad258) ((rd_T33 x256001_2 x10_2).f0).length c256_0) ∧ w'.cell? ⟨go35, ((x10_2).toNat * 2) + 1, none⟩ = some (.int .i64 ((rd_T33 x256001_2 x10_2).f1)) ∧ w'.cell? ⟨go35, ((x10_2).toNat * 2), none⟩ = some (.slice (some ad258) ((rd_T33 x256001_2 x10_2).f0).length c256_0) ∧ w'.cell? ⟨go35, ((x10_2).toNat * 2) + 1, none⟩ = some (.int .i64 ((rd_T33 x256001_2 x10_2).f1)) ∧ w'.cell? (ad258.add (a1).toNat) = some (.int .i64 (rd ((rd_T33 x256001_2 x10_2).f0) a1))) (ds := [23]) #[false, false, false, false, false, false, false, false, false, false, false, false, false, false, false, false, false, false, false, false, false, false, false, false] (by kernel_rfl) rfl rfl ⟨(blk_cell BK255.out 0).trans rfl, (blk_cell BK255.out 1).trans rfl, hx256_0, hx256_1, hx257_0, hx257_1, hx258_0⟩ (fun hHeld => ?_); refine with_tabW familycheckref01_Substitute.tab10 familycheckref01_Substitute.bits10 (fun HT_ HW_ => ?_)
                        generalize wr.drew = w42 at HO_256001 BK246 BK247 BK255 HB GG35 HL256_0 HL257_0 HQ43 HR256_0 HR257_0 HX256_0 HX257_0 hf35_0 hf35_1 hx256_0 hx256_1 hx257_0 hx257_1 hx258_0 hx35_0 hx35_1 hHeld ⊢
                        refine pure_ (i := 0) (N := some 38) (v := ?_) (a' := ?_) #[true, false, false, false, false, false, false, false, false, false, false, false, false, false, false, false, false, false, false, false, false, false, false, false] rfl rfl (any_of HT_.out (by kernel_rfl)) (fun _ _ _ h => h) (Or.inl ⟨by rfl, ?_⟩) ?_ ?_
                        rotate_left
                        · intro w'
                          go_simp
                          with_reducible rfl
                        rotate_left
                        · simp only [Act.put, List.setIfInBounds_toArray, List.set_cons_zero, List.set_cons_succ, i64_w, i32_w]
                          rfl
                        refine pure_ (i := 2) (N := some 40) (v := ?_) (a' := ?_) #[true, false, true, false, false, false, false, false, false, false, false, false, false, false, false, false, false, false, false, false, false, false, false, false] rfl rfl (any_of HT_.out (by kernel_rfl)) (fun _ _ _ h => h) (Or.inl ⟨by rfl, ?_⟩) ?_ ?_
                        rotate_left
                        · intro w'
                          go_simp
                          with_reducible rfl
                        rotate_left
                        · simp only [Act.put, List.setIfInBounds_toArray, List.set_cons_zero, List.set_cons_succ, i64_w, i32_w]
                          rfl
                        refine pure_ (i := 3) (N := some 41) (v := ?_) (a' := ?_) #[true, false, true, true, false, false, false, false, false, false, false, false, false, false, false, false, false, false, false, false, false, false, false, false] rfl rfl (any_of HT_.out (by kernel_rfl)) (fun _ _ _ h => h) (Or.inl ⟨by rfl, ?_⟩) ?_ ?_
                        rotate_left
                        · intro w'
                          go_simp
                          with_reducible rfl
                        rotate_left
                        · simp only [Act.put, List.setIfInBounds_toArray, List.set_cons_zero, List.set_cons_succ, i64_w, i32_w]
                          rfl
                        refine pure_ (i := 5) (N := some 43) (v := ?_) (a' := ?_) #[true, false, true, true, false, true, false, false, false, false, false, false, false, false, false, false, false, false, false, false, false, false, false, false] rfl rfl (any_of HT_.out (by kernel_rfl)) (fun _ _ _ h => h) (Or.inl ⟨by rfl, ?_⟩) ?_ ?_
                        rotate_left
                        · intro w'
                          go_simp
                          with_reducible rfl
                        rotate_left
                        · simp only [Act.put, List.setIfInBounds_toArray, List.set_cons_zero, List.set_cons_succ, i64_w, i32_w]
                          rfl
                        refine pure_ (i := 9) (N := some 47) (v := ?_) (a' := ?_) #[true, false, true, true, false, true, false, false, false, true, false, false, false, false, false, false, false, false, false, false, false, false, false, false] rfl rfl (any_of HT_.out (by kernel_rfl)) (fun _ _ _ h => h) (Or.inl ⟨by rfl, ?_⟩) ?_ ?_
                        rotate_left
                        · intro w'
                          go_simp
                          with_reducible rfl
                        rotate_left
                        · simp only [Act.put, List.setIfInBounds_toArray, List.set_cons_zero, List.set_cons_succ, i64_w, i32_w]
                          rfl
                        refine pure_ (i := 11) (N := some 49) (v := ?_) (a' := ?_) #[true, false, true, true, false, true, false, false, false, true, false, true, false, false, false, false, false, false, false, false, false, false, false, false] rfl rfl (any_of HT_.out (by kernel_rfl)) (fun _ _ _ h => h) (Or.inl ⟨by rfl, ?_⟩) ?_ ?_
                        rotate_left
                        · intro w'
                          go_simp
                          with_reducible rfl
                        rotate_left
                        · simp only [Act.put, List.setIfInBounds_toArray, List.set_cons_zero, List.set_cons_succ, i64_w, i32_w]
                          rfl
                        refine pure_ (i := 15) (N := some 53) (v := ?_) (a' := ?_) #[true, false, true, true, false, true, false, false, false, true, false, true, false, false, false, true, false, false, false, false, false, false, false, false] rfl rfl (any_of HT_.out (by kernel_rfl)) (fun _ _ _ h => h) (Or.inl ⟨by rfl, ?_⟩) ?_ ?_
                        rotate_left
                        · intro w'
                          go_simp
                          with_reducible rfl
                        rotate_left
                        · simp only [Act.put, List.setIfInBounds_toArray, List.set_cons_zero, List.set_cons_succ, i64_w, i32_w]
                          rfl
                        refine pure_ (i := 18) (N := some 56) (v := ?_) (a' := ?_) #[true, false, true, true, false, true, false, false, false, true, false, true, false, false, false, true, false, false, true, false, false, false, false, false] rfl rfl (any_of HT_.out (by kernel_rfl)) (fun _ _ _ h => h) (Or.inl ⟨by rfl, ?_⟩) ?_ ?_
                        rotate_left
                        · intro w'
                          go_simp
                          with_reducible rfl
                        rotate_left
                        · simp only [Act.put, List.setIfInBounds_toArray, List.set_cons_zero, List.set_cons_succ, i64_w, i32_w]
                          rfl
                        refine take_ (i := 1) (N := some 39) (v := ?_) (a' := ?_) #[true, true, true, true, false, true, false, false, false, true, false, true, false, false, false, true, false, false, true, false, false, false, false, false] rfl rfl (take_ofW HT_.out HW_.out (by kernel_rfl)) (fun _ _ _ h => h) (Or.inl ⟨by rfl, ?_⟩) hHeld ?_ ?_
                        rotate_left
                        · rintro w' ⟨s0, s1, s2, s3, s4, s5, s6⟩
                          go_simp
                          with_reducible rfl
                        rotate_left
                        · simp only [Act.put, List.setIfInBounds_toArray, List.set_cons_zero, List.set_cons_succ, i64_w, i32_w]
                          rfl
                        refine take_ (i := 4) (N := some 42) (v := ?_) (a' := ?_) #[true, true, true, true, true, true, false, false, false, true, false, true, false, false, false, true, false, false, true, false, false, false, false, false] rfl rfl (take_ofW HT_.out HW_.out (by kernel_rfl)) (fun _ _ _ h => h) (Or.inl ⟨by rfl, ?_⟩) hHeld ?_ ?_
                        rotate_left
                        · rintro w' ⟨s0, s1, s2, s3, s4, s5, s6⟩
                          go_simp
                          with_reducible rfl
                        rotate_left
                        · simp only [Act.put, List.setIfInBounds_toArray, List.set_cons_zero, List.set_cons_succ, i64_w, i32_w]
                          rfl
                        refine pure_ (i := 6) (N := some 44) (v := ?_) (a' := ?_) #[true, true, true, true, true, true, true, false, false, true, false, true, false, false, false, true, false, false, true, false, false, false, false, false] rfl rfl (any_of HT_.out (by kernel_rfl)) (fun _ _ _ h => h) (Or.inl ⟨by rfl, ?_⟩) ?_ ?_
                        rotate_left
                        · intro w'
                          go_simp
                          with_reducible rfl
                        rotate_left
                        · simp only [Act.put, List.setIfInBounds_toArray, List.set_cons_zero, List.set_cons_succ, i64_w, i32_w]
                          rfl
                        refine pure_ (i := 7) (N := some 45) (v := ?_) (a' := ?_) #[true, true, true, true, true, true, true, true, false, true, false, true, false, false, false, true, false, false, true, false, false, false, false, false] rfl rfl (any_of HT_.out (by kernel_rfl)) (fun _ _ _ h => h) (Or.inl ⟨by rfl, ?_⟩) ?_ ?_
                        rotate_left
                        · intro w'
                          go_simp
                          with_reducible rfl
                        rotate_left
                        · simp only [Act.put, List.setIfInBounds_toArray, List.set_cons_zero, List.set_cons_succ, i64_w, i32_w]
                          rfl
                        refine take_ (i := 8) (N := some 46) (v := ?_) (a' := ?_) #[true, true, true, true, true, true, true, true, true, true, false, true, false, false, false, true, false, false, true, false, false, false, false, false] rfl rfl (take_ofW HT_.out HW_.out (by kernel_rfl)) (fun _ _ _ h => h) (Or.inl ⟨by rfl, ?_⟩) hHeld ?_ ?_
                        rotate_left
                        · rintro w' ⟨s0, s1, s2, s3, s4, s5, s6⟩
                          go_simp
                          with_reducible rfl
                        rotate_left
                        · simp only [Act.put, List.setIfInBounds_toArray, List.set_cons_zero, List.set_cons_succ, i64_w, i32_w]
                          rfl
                        refine take_ (i := 10) (N := some 48) (v := ?_) (a' := ?_) #[true, true, true, true, true, true, true, true, true, true, true, true, false, false, false, true, false, false, true, false, false, false, false, false] rfl rfl (take_ofW HT_.out HW_.out (by kernel_rfl)) (fun _ _ _ h => h) (Or.inl ⟨by rfl, ?_⟩) hHeld ?_ ?_
                        rotate_left
                        · rintro w' ⟨s0, s1, s2, s3, s4, s5, s6⟩
                          go_simp
                          with_reducible rfl
                        rotate_left
                        · simp only [Act.put, List.setIfInBounds_toArray, List.set_cons_zero, List.set_cons_succ, i64_w, i32_w]
                          rfl
                        refine pure_ (i := 12) (N := some 50) (v := ?_) (a' := ?_) #[true, true, true, true, true, true, true, true, true, true, true, true, true, false, false, true, false, false, true, false, false, false, false, false] rfl rfl (any_of HT_.out (by kernel_rfl)) (fun _ _ _ h => h) (Or.inl ⟨by rfl, ?_⟩) ?_ ?_
                        rotate_left
                        · intro w'
                          go_simp
                          with_reducible rfl
                        rotate_left
                        · simp only [Act.put, List.setIfInBounds_toArray, List.set_cons_zero, List.set_cons_succ, i64_w, i32_w]
                          rfl
                        refine pure_ (i := 13) (N := some 51) (v := ?_) (a' := ?_) #[true, true, true, true, true, true, true, true, true, true, true, true, true, true, false, true, false, false, true, false, false, false, false, false] rfl rfl (any_of HT_.out (by kernel_rfl)) (fun _ _ _ h => h) (Or.inl ⟨by rfl, ?_⟩) ?_ ?_
                        rotate_left
                        · intro w'
                          go_simp
                          with_reducible rfl
                        rotate_left
                        · simp only [Act.put, List.setIfInBounds_toArray, List.set_cons_zero, List.set_cons_succ, i64_w, i32_w]
                          rfl
                        refine take_ (i := 14) (N := some 52) (v := ?_) (a' := ?_) #[true, true, true, true, true, true, true, true, true, true, true, true, true, true, true, true, false, false, true, false, false, false, false, false] rfl rfl (take_ofW HT_.out HW_.out (by kernel_rfl)) (fun _ _ _ h => h) (Or.inl ⟨by rfl, ?_⟩) hHeld ?_ ?_
                        rotate_left
                        · rintro w' ⟨s0, s1, s2, s3, s4, s5, s6⟩
                          go_simp
                          with_reducible rfl
                        rotate_left
                        · simp only [Act.put, List.setIfInBounds_toArray, List.set_cons_zero, List.set_cons_succ, i64_w, i32_w]
                          rfl
                        refine pure_ (i := 16) (N := some 54) (v := ?_) (a' := ?_) #[true, true, true, true, true, true, true, true, true, true, true, true, true, true, true, true, true, false, true, false, false, false, false, false] rfl rfl (any_of HT_.out (by kernel_rfl)) (fun _ _ _ h => h) (Or.inl ⟨by rfl, ?_⟩) ?_ ?_
                        rotate_left
                        · intro w'
                          go_simp
                          with_reducible rfl
                        rotate_left
                        · simp only [Act.put, List.setIfInBounds_toArray, List.set_cons_zero, List.set_cons_succ, i64_w, i32_w]
                          rfl
                        refine take_ (i := 17) (N := some 55) (v := ?_) (a' := ?_) #[true, true, true, true, true, true, true, true, true, true, true, true, true, true, true, true, true, true, true, false, false, false, false, false] rfl rfl (take_ofW HT_.out HW_.out (by kernel_rfl)) (fun _ _ _ h => h) (Or.inl ⟨by rfl, ?_⟩) hHeld ?_ ?_
                        rotate_left
                        · rintro w' ⟨s0, s1, s2, s3, s4, s5, s6⟩
                          go_simp
                          with_reducible rfl
                        rotate_left
                        · simp only [Act.put, List.setIfInBounds_toArray, List.set_cons_zero, List.set_cons_succ, i64_w, i32_w]
                          rfl
                        refine pure_ (i := 19) (N := some 57) (v := ?_) (a' := ?_) #[true, true, true, true, true, true, true, true, true, true, true, true, true, true, true, true, true, true, true, true, false, false, false, false] rfl rfl (any_of HT_.out (by kernel_rfl)) (fun _ _ _ h => h) (Or.inl ⟨by rfl, ?_⟩) ?_ ?_
                        rotate_left
                        · intro w'
                          go_simp
                          with_reducible rfl
                        rotate_left
                        · simp only [Act.put, List.setIfInBounds_toArray, List.set_cons_zero, List.set_cons_succ, i64_w, i32_w]
                          rfl
                        refine pure_ (i := 20) (N := some 58) (v := ?_) (a' := ?_) #[true, true, true, true, true, true, true, true, true, true, true, true, true, true, true, true, true, true, true, true, true, false, false, false] rfl rfl (any_of HT_.out (by kernel_rfl)) (fun _ _ _ h => h) (Or.inl ⟨by rfl, ?_⟩) ?_ ?_
                        rotate_left
                        · intro w'
                          go_simp
                          with_reducible rfl
                        rotate_left
                        · simp only [Act.put, List.setIfInBounds_toArray, List.set_cons_zero, List.set_cons_succ, i64_w, i32_w]
                          rfl
                        refine pure_ (i := 21) (N := some 59) (v := ?_) (a' := ?_) #[true, true, true, true, true, true, true, true, true, true, true, true, true, true, true, true, true, true, true, true, true, true, false, false] rfl rfl (any_of HT_.out (by kernel_rfl)) (fun _ _ _ h => h) (Or.inl ⟨by rfl, ?_⟩) ?_ ?_
                        rotate_left
                        · intro w'
                          go_simp
                          with_reducible rfl
                        rotate_left
                        · simp only [Act.put, List.setIfInBounds_toArray, List.set_cons_zero, List.set_cons_succ, i64_w, i32_w]
                          rfl
                        refine pure_ (i := 22) (N := some 60) (v := ?_) (a' := ?_) #[true, true, true, true, true, true, true, true, true, true, true, true, true, true, true, true, true, true, true, true, true, true, true, false] rfl rfl (any_of HT_.out (by kernel_rfl)) (fun _ _ _ h => h) (Or.inl ⟨by rfl, ?_⟩) ?_ ?_
                        rotate_left
                        · intro w'
                          go_simp
                          with_reducible rfl
                        rotate_left
                        · simp only [Act.put, List.setIfInBounds_toArray, List.set_cons_zero, List.set_cons_succ, i64_w, i32_w]
                          rfl
                        refine last_ (i := 23) (N := none) #[true, true, true, true, true, true, true, true, true, true, true, true, true, true, true, true, true, true, true, true, true, true, true, true] rfl rfl (one_of HT_.out (by kernel_rfl)) (by decide) (fun K hK => ?_)
                        refine skip_ (w1 := ?_) (by rfl) rfl ?_ ?_
                        rotate_left
                        · go_simp
                          rfl
                        refine hK.out _ _ ?_
                        clear hK K
                        refine done_ (done_of HT_.out (by kernel_rfl)) ?_
                        have n0_ : Aside0 (Kd.S k33 33 (w42.setCell ⟨go35, (x10_2 : Int).toNat * 2 + 1, none⟩ (.int .i64 (wrap64 (((rd_T33 x256001_2 x10_2).f1) + (wrap64 ((rd ((rd_T33 x256001_2 x10_2).f0) a1) * a2)))))) w.heap.size (fun _ => True) (.slice (some ⟨go35, 0, none⟩) x256001_2.length co41) y259) := ⟨by (with_reducible repeat (first | apply Kd.S_alloc | apply Kd.S_drewN | apply Kd.S_drew)); exact HQ43.out⟩
                        have n1_ : Aside0 (Kd.R (Kd.int .i64) 3 (w42.setCell ⟨go35, (x10_2 : Int).toNat * 2 + 1, none⟩ (.int .i64 (wrap64 (((rd_T33 x256001_2 x10_2).f1) + (wrap64 ((rd ((rd_T33 x256001_2 x10_2).f0) a1) * a2)))))) w.heap.size (fun k_ => some k_ ≠ (.slice (some ⟨go35, 0, none⟩) x256001_2.length co41 : Value).ownBlock) (.slice (some ad258) ((rd_T33 x256001_2 x10_2).f0).length c256_0) ((rd_T33 x256001_2 x10_2).f0)) := ⟨by (with_reducible repeat (first | apply Kd.R_alloc | apply Kd.R_drewN | apply Kd.R_drew)); exact Kd.R_mono (Kd.R_far (p := ⟨go35, (x10_2 : Int).toNat * 2 + 1, none⟩) (Kd.R_types HL256_0.out GG35.out (by decide)) (fun _ hk => hk.2) (.int .i64 (wrap64 (((rd_T33 x256001_2 x10_2).f1) + (wrap64 ((rd ((rd_T33 x256001_2 x10_2).f0) a1) * a2)))))) (fun _ hk => hk.1.2)⟩
                        have n2_ : Aside0 (Kd.R (Kd.int .i64) 3 (w42.setCell ⟨go35, (x10_2 : Int).toNat * 2 + 1, none⟩ (.int .i64 (wrap64 (((rd_T33 x256001_2 x10_2).f1) + (wrap64 ((rd ((rd_T33 x256001_2 x10_2).f0) a1) * a2)))))) w.heap.size (fun k_ => some k_ ≠ (.slice (some ⟨go35, 0, none⟩) x256001_2.length co41 : Value).ownBlock) (.slice (some ad258) ((rd_T33 x256001_2 x10_2).f0).length c256_0) ((rd_T33 x256001_2 x10_2).f0)) := ⟨by (with_reducible repeat (first | apply Kd.R_alloc | apply Kd.R_drewN | apply Kd.R_drew)); exact Kd.R_mono (Kd.R_far (p := ⟨go35, (x10_2 : Int).toNat * 2 + 1, none⟩) (Kd.R_types HL257_0.out GG35.out (by decide)) (fun _ hk => hk.2) (.int .i64 (wrap64 (((rd_T33 x256001_2 x10_2).f1) + (wrap64 ((rd ((rd_T33 x256001_2 x10_2).f0) a1) * a2)))))) (fun _ hk => hk.1.2)⟩
                        have n3_ : Aside0 ((w42.setCell ⟨go35, (x10_2 : Int).toNat * 2 + 1, none⟩ (.int .i64 (wrap64 (((rd_T33 x256001_2 x10_2).f1) + (wrap64 ((rd ((rd_T33 x256001_2 x10_2).f0) a1) * a2)))))).heap[gb246]? = some (.cells #[.int .i64 a0_0, .slice A0_1 l0_1.length c0_1] 24 (0, 0))) := ⟨by (with_reducible repeat (first | refine blk_drewN ?_ _ | refine blk_drew ?_ | refine blk_alloc ?_ _)); refine blk_far ?_ (by have h_ := Kd.S_ne HO_256001.out BK246.out (by decide); intro e_; exact h_ (by rw [e_]; rfl)) _; (with_reducible repeat (first | refine blk_drewN ?_ _ | refine blk_drew ?_ | refine blk_alloc ?_ _)); exact BK246.out⟩
                        have n4_ : Aside0 ((w42.setCell ⟨go35, (x10_2 : Int).toNat * 2 + 1, none⟩ (.int .i64 (wrap64 (((rd_T33 x256001_2 x10_2).f1) + (wrap64 ((rd ((rd_T33 x256001_2 x10_2).f0) a1) * a2)))))).heap[gb247]? = some (.cells #[.int .i64 0, .slice none 0 0] 24 (0, 0))) := ⟨by (with_reducible repeat (first | refine blk_drewN ?_ _ | refine blk_drew ?_ | refine blk_alloc ?_ _)); refine blk_far ?_ (by have h_ := Kd.S_ne HO_256001.out BK247.out (by decide); intro e_; exact h_ (by rw [e_]; rfl)) _; (with_reducible repeat (first | refine blk_drewN ?_ _ | refine blk_drew ?_ | refine blk_alloc ?_ _)); exact BK247.out⟩
                        have n5_ : Aside0 ((w42.setCell ⟨go35, (x10_2 : Int).toNat * 2 + 1, none⟩ (.int .i64 (wrap64 (((rd_T33 x256001_2 x10_2).f1) + (wrap64 ((rd ((rd_T33 x256001_2 x10_2).f0) a1) * a2)))))).heap[gb255]? = some (.cells #[.int .i64 t251, .slice (some ⟨go35, 0, none⟩) x256001_2.length co41] 24 (0, 0))) := ⟨by (with_reducible repeat (first | refine blk_drewN ?_ _ | refine blk_drew ?_ | refine blk_alloc ?_ _)); refine blk_far ?_ (by have h_ := Kd.S_ne HO_256001.out BK255.out (by decide); intro e_; exact h_ (by rw [e_]; rfl)) _; (with_reducible repeat (first | refine blk_drewN ?_ _ | refine blk_drew ?_ | refine blk_alloc ?_ _)); exact BK255.out⟩
                        have n6_ : Aside0 (Below w.heap.size w (w42.setCell ⟨go35, (x10_2 : Int).toNat * 2 + 1, none⟩ (.int .i64 (wrap64 (((rd_T33 x256001_2 x10_2).f1) + (wrap64 ((rd ((rd_T33 x256001_2 x10_2).f0) a1) * a2))))))) := ⟨by repeat (first | (with_reducible first | exact HB.out | apply below_alloc | apply pw_below_drewN | apply below_drew1 | refine below_set ?_ GB35.out | refine below_set ?_ GE246.out | refine below_set ?_ GE247.out | refine below_set ?_ GE255.out) | exact HB.out)⟩
                        (try clear HO_256001)
                        (try clear HL256_0)
                        (try clear HL257_0)
                        (try clear BK246)
                        (try clear BK247)
                        (try clear BK255)
                        (try clear HB)
                        generalize (w42.setCell ⟨go35, (x10_2 : Int).toNat * 2 + 1, none⟩ (.int .i64 (wrap64 (((rd_T33 x256001_2 x10_2).f1) + (wrap64 ((rd ((rd_T33 x256001_2 x10_2).f0) a1) * a2)))))) = w44 at n0_ n1_ n2_ n3_ n4_ n5_ n6_ ⊢
                        have HO_256001 := n0_
                        have HL256_0 := n1_
                        have HL257_0 := n2_
                        have BK246 := n3_
                        have BK247 := n4_
                        have BK255 := n5_
                        have HB := n6_
                        clear n0_ n1_ n2_ n3_ n4_ n5_ n6_
                        have hcz45_0 : w44.cell? ⟨gb255, 0, none⟩ = some (.int .i64 t251) := (blk_cell BK255.out 0).trans rfl
                        have hcz45_1 : w44.cell? ⟨gb255, 1, none⟩ = some (.slice (some ⟨go35, 0, none⟩) x256001_2.length co41) := (blk_cell BK255.out 1).trans rfl
                        have hfz45_0 := blk_frozen BK255.out 0
                        have hfz45_1 := blk_frozen BK255.out 1
                        have p260 : 0 ≤ (x10_2 : Int) := of_decide_eq_true (by first | (with_reducible assumption) | assumption)
                        have q260 : x10_2 < (y259.length : Int) := (by have h_ : (x10_2 : Int) < ((x256001_2.length : Int) : Int) := of_decide_eq_true (by first | (with_reducible assumption) | assumption); first | (have e_ := (Kd.S_reads' HO_256001.out).1; omega) | simpa only [Ny259.out, List.length_set] using h_)
                        have ql260 : ((x10_2 : Int) < ((x256001_2.length : Int) : Int)) = True := eq_true (of_decide_eq_true (by first | (with_reducible assumption) | assumption))
                        obtain ⟨ad260, A260_0, c260_0, e260, hx260_0, hx260_1, hl260_0, hi260_0⟩ := at_T33 (Kd.S_reads' HO_256001.out).2.2 x10_2 p260 q260
                        obtain rfl : (⟨go35, 0, none⟩ : Addr) = ad260 := (by injection e260)
                        obtain ⟨ce260, hce260, hMe260, hcc260⟩ := Kd.S_get HO_256001.out z33 x10_2 p260 (by first | exact q260 | exact of_decide_eq_true (by first | (with_reducible assumption) | assumption) | (have e_ := (Kd.S_reads' HO_256001.out).1; omega))
                        obtain ⟨ve260_0, rfl, ge260_0⟩ := k33_openM hMe260
                        have hv260_0 := hcc260 0 _ rfl
                        rw [Nat.add_zero] at hv260_0
                        replace hv260_0 := Option.some.inj (hv260_0.symm.trans hx260_0)
                        rw [hv260_0] at ge260_0
                        have HL260_0 := Aside0.mk (show Kd.R (Kd.int .i64) 3 _ _ _ _ ((rd_T33 y259 x10_2).f0) from ge260_0)
                        clear hv260_0 ge260_0
                        have HX260_0 := Aside0.mk hx260_0
                        clear hcc260 hce260
                        (first | simp only [add_plain] at hx260_0 | simp only [add_at] at hx260_0 | simp only [Addr.add, Nat.zero_add] at hx260_0 | skip)
                        (first | simp only [add_plain] at hx260_1 | simp only [add_at] at hx260_1 | simp only [Addr.add, Nat.zero_add] at hx260_1 | skip)
                        have HR260_0 := Aside0.mk hi260_0
                        have HC260_0 := Aside0.mk hl260_0
                        clear hi260_0 hl260_0
                        replace p260 := eq_true p260
                        replace q260 := eq_true q260
                        have p37 : 0 ≤ (a1 : Int) := of_decide_eq_true (by first | (with_reducible assumption) | assumption)
                        have q37 : (a1 : Int) < ((((rd_T33 y259 x10_2).f0).length : Int) : Int) := of_decide_eq_true (by first | (with_reducible assumption) | assumption)
                        obtain ⟨go37, co37, eo37, gb37, gl37, cl37, HG37⟩ := Kd.R_form HL260_0.out (by omega)
                        (first | cases eo37 | (injection eo37 with ea_ en_ ec_; (first | subst ea_ | (injection ea_ with ea_; subst ea_)); subst ec_; clear en_))
                        have GB37 := Aside0.mk gb37
                        have GG37 := Aside0.mk HG37
                        clear gb37 gl37 HG37
                        obtain ⟨hx37_0, hf37_0⟩ := Kd.R_celln 0 HL260_0.out (a1 : Int) p37 q37
                        replace p37 := eq_true p37
                        replace q37 := eq_true q37
                        have hq46 : (x10_2 : Int) < (y259.length : Int) := (by have h_ : (x10_2 : Int) < ((x256001_2.length : Int) : Int) := of_decide_eq_true (by first | (with_reducible assumption) | assumption); first | exact h_ | (have e_ := (Kd.S_reads' HO_256001.out).1; omega) | simpa only [Ny259.out, List.length_set] using h_)
                        obtain ⟨oki46, ce46, hcl46, hM46, hcc46, hok46, hbk46⟩ := Kd.S_borrow HO_256001.out z33 (x10_2 : Int) (of_decide_eq_true (by first | (with_reducible assumption) | assumption)) (by first | exact hq46 | (have e_ := (Kd.S_reads' HO_256001.out).1; have h_ := hq46; omega))
                        obtain ⟨ve46_0, rfl, ge46_0⟩ := k33_openM hM46
                        have hv46 := hcc46 0 _ rfl
                        rw [Nat.add_zero] at hv46
                        replace hv46 := Option.some.inj (hv46.symm.trans HX260_0.out)
                        subst hv46
                        clear hcc46 hcl46
                        replace ge46_0 := (show Kd.R (Kd.int .i64) 3 _ _ _ _ ((rd_T33 y259 x10_2).f0) from ge46_0)
                        have HP46 := Kd.R_putg ge46_0 (a1 : Int) 0
                        try go_wp2_with (first | ((with_reducible refine gate_store (t := 3) (p := 68) rfl ?_); refine store_event (t := 3) (p := 68) (v := ?vo_w47) (w1 := (w44.setCell ⟨go37, (a1 : Int).toNat, none⟩ (.int .i64 0))) ?hg ?ho ?hn ?hr ?_; (case ho => rfl); (case hg => rfl); (case hn => rfl); (case hr => first | (go_simp; done) | (go_simp; rfl)); intro w47 hw; have hg : w44.grownBy w47 (some go37) := (by rw [hw]; exact HP46.2); have hz_ : Kd.R (Kd.int .i64) 3 w47 w.heap.size oki46 (.slice (some ⟨go37, 0, none⟩) ((rd_T33 y259 x10_2).f0).length c260_0) y261 := (by rw [hw, Ny261.out]; exact HP46.1); have hp_ : Kd.S k33 33 w47 w.heap.size (fun _ => True) (.slice (some ⟨go35, 0, none⟩) x256001_2.length co41) y263 := (by rw [Ny263.out]; exact hbk46 hg (fun k_ e_ => by injection e_ with e_; subst e_; exact ge46_0.1 _ rfl) (k33_mkM _ _ _ (⟨y261, (rd_T33 y259 x10_2).f1⟩ : S33) hz_)); have hm_ := Kd.R_mono hz_ hok46; clear HP46 hbk46; have n0_ := Aside0.mk (hp_); have n1_ := Aside0.mk (blk_grown (g := gb246) (o := .cells #[.int .i64 a0_0, .slice A0_1 l0_1.length c0_1] 24 (0, 0)) (by (with_reducible repeat (first | refine blk_drewN ?_ _ | refine blk_drew ?_ | refine blk_alloc ?_ _)); exact BK246.out) hg (Kd.R_ne HL260_0.out BK246.out (by decide))); have n2_ := Aside0.mk (blk_grown (g := gb247) (o := .cells #[.int .i64 0, .slice none 0 0] 24 (0, 0)) (by (with_reducible repeat (first | refine blk_drewN ?_ _ | refine blk_drew ?_ | refine blk_alloc ?_ _)); exact BK247.out) hg (Kd.R_ne HL260_0.out BK247.out (by decide))); have n3_ := Aside0.mk (blk_grown (g := gb255) (o := .cells #[.int .i64 t251, .slice (some ⟨go35, 0, none⟩) x256001_2.length co41] 24 (0, 0)) (by (with_reducible repeat (first | refine blk_drewN ?_ _ | refine blk_drew ?_ | refine blk_alloc ?_ _)); exact BK255.out) hg (Kd.R_ne HL260_0.out BK255.out (by decide))); have n4_ := Aside0.mk ((by rw [hw]; exact below_set (HB.out) GB37.out : Below w.heap.size w w47)); have n5_ := Aside0.mk (hm_); have n6_ := Aside0.mk ((Kd.R_reads' hm_).2.1); clear HO_256001; clear BK246; clear BK247; clear BK255; clear HB; clear HL256_0; clear HL257_0; clear HL260_0; have HO_256001 := n0_; have BK246 := n1_; have BK247 := n2_; have BK255 := n3_; have HB := n4_; have HL265 := n5_; have HC262 := n6_; clear n0_ n1_ n2_ n3_ n4_ n5_ n6_; clear hg hw hp_ hz_ hm_ hok46))
                        go_roundg k2
                        case measure => have := HJ5.out; have := HK2.out; omega
                        case rel => exact ⟨(wrap64 (x10_2 + 1)), (y263), (.slice (some ⟨go35, 0, none⟩) x256001_2.length co41), (by first | rfl | (simp; done) | (simp [*]; done)), H', ⟨by have := HJ5.out; have := HK2.out; omega⟩, ⟨by (with_reducible repeat (first | apply Kd.S_alloc | apply Kd.S_drewN | apply Kd.S_drew)); exact HO_256001.out⟩, ⟨by (with_reducible repeat (first | refine blk_drewN ?_ _ | refine blk_drew ?_ | refine blk_alloc ?_ _)); exact BK246.out⟩, ⟨by (with_reducible repeat (first | refine blk_drewN ?_ _ | refine blk_drew ?_ | refine blk_alloc ?_ _)); exact BK247.out⟩, ⟨by (with_reducible repeat (first | refine blk_drewN ?_ _ | refine blk_drew ?_ | refine blk_alloc ?_ _)); exact BK255.out⟩, ⟨by repeat (first | (with_reducible first | exact HB.out | apply below_alloc | apply pw_below_drewN | apply below_drew1 | refine below_set ?_ GE246.out | refine below_set ?_ GE247.out | refine below_set ?_ GE255.out) | exact HB.out)⟩⟩
                      · rw [if_neg c36] at H
                        exact absurd H (by simp)
                    · rw [if_neg c34] at H
                      exact absurd H (by simp)
                  · rw [if_neg c33] at H
                    exact absurd H (by simp)
                · rw [if_neg c32] at H
                  exact absurd H (by simp)
              · rw [if_neg c31] at H
                have c31b0 : decide (x10_2 < (x256001_2.length : Int)) = false := decide_eq_false c31
                clear c31
                replace H := Option.bind_eq_some_iff.mp H
                obtain ⟨t264, A480, H⟩ := H
                replace H : (if t264 = 0 then (some (t251, x256001_2, 0)) else (some (0, ([] : List (S33)), 4))) = some (r1, r2, r3) := H
                have A48 := Aside0.mk A480
                clear A480
                by_cases c49 : t264 = 0
                · rw [if_pos c49] at H
                  have c49b0 : (t264 == 0) = true := beq_iff_eq.mpr c49
                  have c49b1 : (t264 != 0) = false := bne_eq_false_iff_eq.mpr c49
                  clear c49
                  simp only [Option.some.injEq, Prod.mk.injEq] at H
                  obtain ⟨rfl, rfl, rfl⟩ := H
                  have hnb50 := NB255_246.out
                  have hnc50 := NB246_255.out
                  have hnb51 := NB255_247.out
                  have hnc51 := NB247_255.out
                  have hcz52_0 : wr.cell? ⟨gb255, 0, none⟩ = some (.int .i64 t251) := (blk_cell BK255.out 0).trans rfl
                  have hcz52_1 : wr.cell? ⟨gb255, 1, none⟩ = some (u256001) := (blk_cell BK255.out 1).trans rfl
                  have hfz52_0 := blk_frozen BK255.out 0
                  have hfz52_1 := blk_frozen BK255.out 1
                  obtain ⟨Ao53, co53, eo53⟩ := Kd.S_slice HO_256001.out
                  subst eo53
                  go_wp2_with (first | ((with_reducible refine gate_callee (f := 19) rfl ?_); refine goesL_ (some 70) rfl rfl Tryd.func19 (by kernel_rfl) rfl #[.agg #[.int .i64 t251, .slice Ao53 x256001_2.length co53]] rfl (by (try simp only [List.map_toArray, List.map_cons, List.map_nil]); first | done | rfl | (simp only [List.length_drop, List.length_take]; rfl)) ?_; (with_reducible refine (familycheckref01_Validate.calls k2 t251 _ _ x256001_2 t264 _ ?side1 ?side2 A48.out).mono ?_); (case side1 => repeat (first | exact (Kd.S_reads' HO_256001.out).2.2 | (with_reducible refine Kd.C_alloc ?_ _) | (with_reducible refine Kd.C_drewN ?_ _) | (with_reducible refine Kd.C_drew ?_))); (case side2 => exact (Kd.S_reads' HO_256001.out).2.1); rintro e w54 ⟨rfl, hb⟩; refine ⟨_, rfl, ?_⟩; have n0_ := Aside0.mk (Kd.S_below (by (with_reducible repeat (first | apply Kd.S_alloc | apply Kd.S_drewN | apply Kd.S_drew)); exact HO_256001.out) hb); have n1_ := Aside0.mk (blk_below (g := gb246) (o := .cells #[.int .i64 a0_0, .slice A0_1 l0_1.length c0_1] 24 (0, 0)) (by (with_reducible repeat (first | refine blk_drewN ?_ _ | refine blk_drew ?_ | refine blk_alloc ?_ _)); exact BK246.out) hb); have n2_ := Aside0.mk (blk_below (g := gb247) (o := .cells #[.int .i64 0, .slice none 0 0] 24 (0, 0)) (by (with_reducible repeat (first | refine blk_drewN ?_ _ | refine blk_drew ?_ | refine blk_alloc ?_ _)); exact BK247.out) hb); have n3_ := Aside0.mk (blk_below (g := gb255) (o := .cells #[.int .i64 t251, .slice Ao53 x256001_2.length co53] 24 (0, 0)) (by (with_reducible repeat (first | refine blk_drewN ?_ _ | refine blk_drew ?_ | refine blk_alloc ?_ _)); exact BK255.out) hb); have n4_ := Aside0.mk (below_step (by repeat (first | (with_reducible first | exact HB.out | apply below_alloc | apply pw_below_drewN | apply below_drew1 | refine below_set ?_ GE246.out | refine below_set ?_ GE247.out | refine below_set ?_ GE255.out) | exact HB.out)) hb); clear HO_256001; clear BK246; clear BK247; clear BK255; clear HB; have HO_256001 := n0_; have BK246 := n1_; have BK247 := n2_; have BK255 := n3_; have HB := n4_; clear n0_ n1_ n2_ n3_ n4_; (try clear hb); (try clear hb2); (try clear hk); (try clear hi); have hcz55_0 : w54.cell? ⟨gb255, 0, none⟩ = some (.int .i64 t251) := (blk_cell BK255.out 0).trans rfl; have hcz55_1 : w54.cell? ⟨gb255, 1, none⟩ = some (.slice Ao53 x256001_2.length co53) := (blk_cell BK255.out 1).trans rfl; have hfz55_0 := blk_frozen BK255.out 0; have hfz55_1 := blk_frozen BK255.out 1; have hnb56 := NB247_246.out; have hnc56 := NB246_247.out; have hcz57_0 : w54.cell? ⟨gb247, 0, none⟩ = some (.int .i64 0) := (blk_cell BK247.out 0).trans rfl; have hcz57_1 : w54.cell? ⟨gb247, 1, none⟩ = some (.slice none 0 0) := (blk_cell BK247.out 1).trans rfl; have hfz57_0 := blk_frozen BK247.out 0; have hfz57_1 := blk_frozen BK247.out 1))
                  refine bodyPost_ret (results_ct rfl _ _ gb247 24 #[.int .i64 t251, .slice Ao53 x256001_2.length co53] (0, 0) _ rfl (by (with_reducible repeat (first | refine blk_drewN ?_ _ | refine blk_drew ?_ | refine blk_alloc ?_ _)); refine blk_put (cs := #[.int .i64 t251, .slice none 0 0]) ?_ 1 _ rfl; (with_reducible repeat (first | refine blk_drewN ?_ _ | refine blk_drew ?_ | refine blk_alloc ?_ _)); refine blk_put (cs := #[.int .i64 0, .slice none 0 0]) ?_ 0 _ rfl; (with_reducible repeat (first | refine blk_drewN ?_ _ | refine blk_drew ?_ | refine blk_alloc ?_ _)); exact BK247.out) Tryd.underlying24 rfl (by kernel_rfl)) rfl ?_
                  exact ⟨_, by first | rfl | (simp [errW_none, errW_some] <;> rfl) | (simp [*, errW_none, errW_some] <;> rfl), by (with_reducible repeat (first | apply Kd.S_alloc | apply Kd.S_drewN | apply Kd.S_drew)); exact Kd.S_mono (Kd.S_far (p := ⟨gb247, 1, none⟩) (Kd.S_far (p := ⟨gb247, 0, none⟩) (Kd.S_types HO_256001.out BK247.out (by decide)) (fun _ hk => hk.2) (.int .i64 t251)) (fun _ hk => hk.2) (.slice Ao53 x256001_2.length co53)) (fun _ hk => trivial), by repeat (first | (with_reducible first | exact HB.out | apply below_alloc | apply pw_below_drewN | apply below_drew1 | refine below_set ?_ GE246.out | refine below_set ?_ GE247.out | refine below_set ?_ GE255.out) | exact HB.out)⟩
                · rw [if_neg c49] at H
                  have c49b0 : (t264 == 0) = false := beq_eq_false_iff_ne.mpr c49
                  have c49b1 : (t264 != 0) = true := bne_iff_ne.mpr c49
                  simp only [Option.some.injEq, Prod.mk.injEq] at H
                  obtain ⟨rfl, rfl, rfl⟩ := H
                  have hnb58 := NB255_246.out
                  have hnc58 := NB246_255.out
                  have hnb59 := NB255_247.out
                  have hnc59 := NB247_255.out
                  have hcz60_0 : wr.cell? ⟨gb255, 0, none⟩ = some (.int .i64 t251) := (blk_cell BK255.out 0).trans rfl
                  have hcz60_1 : wr.cell? ⟨gb255, 1, none⟩ = some (u256001) := (blk_cell BK255.out 1).trans rfl
                  have hfz60_0 := blk_frozen BK255.out 0
                  have hfz60_1 := blk_frozen BK255.out 1
                  obtain ⟨Ao61, co61, eo61⟩ := Kd.S_slice HO_256001.out
                  subst eo61
                  go_wp2_with (first | ((with_reducible refine gate_callee (f := 19) rfl ?_); refine goesL_ (some 70) rfl rfl Tryd.func19 (by kernel_rfl) rfl #[.agg #[.int .i64 t251, .slice Ao61 x256001_2.length co61]] rfl (by (try simp only [List.map_toArray, List.map_cons, List.map_nil]); first | done | rfl | (simp only [List.length_drop, List.length_take]; rfl)) ?_; (with_reducible refine (familycheckref01_Validate.calls k2 t251 _ _ x256001_2 t264 _ ?side1 ?side2 A48.out).mono ?_); (case side1 => repeat (first | exact (Kd.S_reads' HO_256001.out).2.2 | (with_reducible refine Kd.C_alloc ?_ _) | (with_reducible refine Kd.C_drewN ?_ _) | (with_reducible refine Kd.C_drew ?_))); (case side2 => exact (Kd.S_reads' HO_256001.out).2.1); rintro e w62 ⟨rfl, hb⟩; refine ⟨_, rfl, ?_⟩; have n0_ := Aside0.mk (Kd.S_below (by (with_reducible repeat (first | apply Kd.S_alloc | apply Kd.S_drewN | apply Kd.S_drew)); exact HO_256001.out) hb); have n1_ := Aside0.mk (blk_below (g := gb246) (o := .cells #[.int .i64 a0_0, .slice A0_1 l0_1.length c0_1] 24 (0, 0)) (by (with_reducible repeat (first | refine blk_drewN ?_ _ | refine blk_drew ?_ | refine blk_alloc ?_ _)); exact BK246.out) hb); have n2_ := Aside0.mk (blk_below (g := gb247) (o := .cells #[.int .i64 0, .slice none 0 0] 24 (0, 0)) (by (with_reducible repeat (first | refine blk_drewN ?_ _ | refine blk_drew ?_ | refine blk_alloc ?_ _)); exact BK247.out) hb); have n3_ := Aside0.mk (blk_below (g := gb255) (o := .cells #[.int .i64 t251, .slice Ao61 x256001_2.length co61] 24 (0, 0)) (by (with_reducible repeat (first | refine blk_drewN ?_ _ | refine blk_drew ?_ | refine blk_alloc ?_ _)); exact BK255.out) hb); have n4_ := Aside0.mk (below_step (by repeat (first | (with_reducible first | exact HB.out | apply below_alloc | apply pw_below_drewN | apply below_drew1 | refine below_set ?_ GE246.out | refine below_set ?_ GE247.out | refine below_set ?_ GE255.out) | exact HB.out)) hb); clear HO_256001; clear BK246; clear BK247; clear BK255; clear HB; have HO_256001 := n0_; have BK246 := n1_; have BK247 := n2_; have BK255 := n3_; have HB := n4_; clear n0_ n1_ n2_ n3_ n4_; (try clear hb); (try clear hb2); (try clear hk); (try clear hi); have hnb63 := NB247_246.out; have hnc63 := NB246_247.out; have hcz64_0 : w62.cell? ⟨gb247, 0, none⟩ = some (.int .i64 0) := (blk_cell BK247.out 0).trans rfl; have hcz64_1 : w62.cell? ⟨gb247, 1, none⟩ = some (.slice none 0 0) := (blk_cell BK247.out 1).trans rfl; have hfz64_0 := blk_frozen BK247.out 0; have hfz64_1 := blk_frozen BK247.out 1))
                  refine bodyPost_ret (results_ct rfl _ _ gb247 24 #[.int .i64 0, .slice none 0 0] (0, 0) _ rfl (by (with_reducible repeat (first | refine blk_drewN ?_ _ | refine blk_drew ?_ | refine blk_alloc ?_ _)); refine blk_put (cs := #[.int .i64 0, .slice none 0 0]) ?_ 1 _ rfl; (with_reducible repeat (first | refine blk_drewN ?_ _ | refine blk_drew ?_ | refine blk_alloc ?_ _)); refine blk_put (cs := #[.int .i64 0, .slice none 0 0]) ?_ 0 _ rfl; (with_reducible repeat (first | refine blk_drewN ?_ _ | refine blk_drew ?_ | refine blk_alloc ?_ _)); exact BK247.out) Tryd.underlying24 rfl (by kernel_rfl)) rfl ?_
                  exact ⟨_, by first | rfl | (simp [errW_none, errW_some] <;> rfl) | (simp [*, errW_none, errW_some] <;> rfl), by first | exact Kd.S_nil _ _ _ _ _ | exact Kd.N_nil _ _ _ _ _ | exact Kd.V_nil _ _ _ _ _ | exact Kd.Q_nil _ _ _ _ _ | exact Kd.R_nil _ _ _ _ _, by repeat (first | (with_reducible first | exact HB.out | apply below_alloc | apply pw_below_drewN | apply below_drew1 | refine below_set ?_ GE246.out | refine below_set ?_ GE247.out | refine below_set ?_ GE255.out) | exact HB.out)⟩
  · rw [if_neg c5] at H
    have c5b0 : (t248 == 0) = false := beq_eq_false_iff_ne.mpr c5
    have c5b1 : (t248 != 0) = true := bne_iff_ne.mpr c5
    simp only [Option.some.injEq, Prod.mk.injEq] at H
    obtain ⟨rfl, rfl, rfl⟩ := H
    go_enter Tryd.func44, Tryd.ntmps44
    go_wp2_with (first | ((with_reducible refine gate_dst (N := 3) rfl ?_); refine box_event ?hg (N := 3) ?hd (cs := #[.int .i64 a0_0, .slice A0_1 l0_1.length c0_1]) (t := 24) ?hr ?_; (case hd => rfl); (case hg => rfl); (case hr => first | (go_simp; done) | (go_simp; rfl)); intro gb246 hg w65 hbox hb; have n0_ := Aside0.mk (below_step (by repeat (first | (with_reducible first | exact HB.out | apply below_alloc | apply pw_below_drewN | apply below_drew1) | exact HB.out)) hb); have n1_ := Aside0.mk (hbox); have n2_ := Aside0.mk ((by rw [hg]; exact (below_size (by repeat (first | (with_reducible first | exact HB.out | apply below_alloc | apply pw_below_drewN | apply below_drew1) | exact HB.out))) : w.heap.size ≤ gb246)); have n3_ := Aside0.mk ((by rw [hg]; exact (below_size (by repeat (first | (with_reducible first | exact HB.out | apply below_alloc | apply pw_below_drewN | apply below_drew1) | exact HB.out))) : w.heap.size ≤ gb246)); clear HB; have HB := n0_; have BK246 := n1_; have GW246 := n2_; have GE246 := n3_; clear n0_ n1_ n2_ n3_; clear hb hbox hg) | ((with_reducible refine gate_dst (N := 6) rfl ?_); refine box_event ?hg (N := 6) ?hd (cs := #[.int .i64 0, .slice none 0 0]) (t := 24) ?hr ?_; (case hd => rfl); (case hg => rfl); (case hr => first | (go_simp; done) | (go_simp; rfl)); intro gb247 hg w66 hbox hb; have n0_ := Aside0.mk (blk_below (g := gb246) (o := .cells #[.int .i64 a0_0, .slice A0_1 l0_1.length c0_1] 24 (0, 0)) (by (with_reducible repeat (first | refine blk_drewN ?_ _ | refine blk_drew ?_ | refine blk_alloc ?_ _)); exact BK246.out) hb); have n1_ := Aside0.mk (below_step (by repeat (first | (with_reducible first | exact HB.out | apply below_alloc | apply pw_below_drewN | apply below_drew1 | refine below_set ?_ GE246.out) | exact HB.out)) hb); have n2_ := Aside0.mk (hbox); have n3_ := Aside0.mk ((by rw [hg]; exact (below_size (by repeat (first | (with_reducible first | exact HB.out | apply below_alloc | apply pw_below_drewN | apply below_drew1 | refine below_set ?_ GE246.out) | exact HB.out))) : w.heap.size ≤ gb247)); have n4_ := Aside0.mk ((by rw [hg]; exact (below_size (by repeat (first | (with_reducible first | exact HB.out | apply below_alloc | apply pw_below_drewN | apply below_drew1 | refine below_set ?_ GE246.out) | exact HB.out))) : w.heap.size ≤ gb247)); have n5_ := Aside0.mk ((by rw [hg]; exact Nat.ne_of_lt (blk_lt (g := gb246) (o := .cells #[.int .i64 a0_0, .slice A0_1 l0_1.length c0_1] 24 (0, 0)) (by (with_reducible repeat (first | refine blk_drewN ?_ _ | refine blk_drew ?_ | refine blk_alloc ?_ _)); exact BK246.out)) : gb246 ≠ gb247)); have n6_ := Aside0.mk ((by rw [hg]; exact Nat.ne_of_gt (blk_lt (g := gb246) (o := .cells #[.int .i64 a0_0, .slice A0_1 l0_1.length c0_1] 24 (0, 0)) (by (with_reducible repeat (first | refine blk_drewN ?_ _ | refine blk_drew ?_ | refine blk_alloc ?_ _)); exact BK246.out)) : gb247 ≠ gb246)); clear BK246; clear HB; have BK246 := n0_; have HB := n1_; have BK247 := n2_; have GW247 := n3_; have GE247 := n4_; have NB246_247 := n5_; have NB247_246 := n6_; clear n0_ n1_ n2_ n3_ n4_ n5_ n6_; clear hb hbox hg; have hnb67 := NB246_247.out; have hnc67 := NB247_246.out; have hcz68_0 : w66.cell? ⟨gb246, 0, none⟩ = some (.int .i64 a0_0) := (blk_cell BK246.out 0).trans rfl; have hcz68_1 : w66.cell? ⟨gb246, 1, none⟩ = some (.slice A0_1 l0_1.length c0_1) := (blk_cell BK246.out 1).trans rfl; have hfz68_0 := blk_frozen BK246.out 0; have hfz68_1 := blk_frozen BK246.out 1) | ((with_reducible refine gate_callee (f := 19) rfl ?_); refine goesL_ (some 12) rfl rfl Tryd.func19 (by kernel_rfl) rfl #[.agg #[.int .i64 a0_0, .slice A0_1 l0_1.length c0_1]] rfl (by (try simp only [List.map_toArray, List.map_cons, List.map_nil]); first | done | rfl | (simp only [List.length_drop, List.length_take]; rfl)) ?_; (with_reducible refine (familycheckref01_Validate.calls k a0_0 _ _ l0_1 t248 _ ?side1 ?side2 A4.out).mono ?_); (case side1 => repeat (first | exact (Kd.C_below HR0_1.out HB.out) | (with_reducible refine Kd.C_alloc ?_ _) | (with_reducible refine Kd.C_drewN ?_ _) | (with_reducible refine Kd.C_drew ?_))); (case side2 => exact HC0_1.out); rintro e w69 ⟨rfl, hb⟩; refine ⟨_, rfl, ?_⟩; have n0_ := Aside0.mk (blk_below (g := gb246) (o := .cells #[.int .i64 a0_0, .slice A0_1 l0_1.length c0_1] 24 (0, 0)) (by (with_reducible repeat (first | refine blk_drewN ?_ _ | refine blk_drew ?_ | refine blk_alloc ?_ _)); exact BK246.out) hb); have n1_ := Aside0.mk (blk_below (g := gb247) (o := .cells #[.int .i64 0, .slice none 0 0] 24 (0, 0)) (by (with_reducible repeat (first | refine blk_drewN ?_ _ | refine blk_drew ?_ | refine blk_alloc ?_ _)); exact BK247.out) hb); have n2_ := Aside0.mk (below_step (by repeat (first | (with_reducible first | exact HB.out | apply below_alloc | apply pw_below_drewN | apply below_drew1 | refine below_set ?_ GE246.out | refine below_set ?_ GE247.out) | exact HB.out)) hb); clear BK246; clear BK247; clear HB; have BK246 := n0_; have BK247 := n1_; have HB := n2_; clear n0_ n1_ n2_; (try clear hb); (try clear hb2); (try clear hk); (try clear hi); have hcz70_0 : w69.cell? ⟨gb247, 0, none⟩ = some (.int .i64 0) := (blk_cell BK247.out 0).trans rfl; have hcz70_1 : w69.cell? ⟨gb247, 1, none⟩ = some (.slice none 0 0) := (blk_cell BK247.out 1).trans rfl; have hfz70_0 := blk_frozen BK247.out 0; have hfz70_1 := blk_frozen BK247.out 1))
    refine bodyPost_ret (results_ct rfl _ _ gb247 24 #[.int .i64 0, .slice none 0 0] (0, 0) _ rfl (by (with_reducible repeat (first | refine blk_drewN ?_ _ | refine blk_drew ?_ | refine blk_alloc ?_ _)); refine blk_put (cs := #[.int .i64 0, .slice none 0 0]) ?_ 1 _ rfl; (with_reducible repeat (first | refine blk_drewN ?_ _ | refine blk_drew ?_ | refine blk_alloc ?_ _)); refine blk_put (cs := #[.int .i64 0, .slice none 0 0]) ?_ 0 _ rfl; (with_reducible repeat (first | refine blk_drewN ?_ _ | refine blk_drew ?_ | refine blk_alloc ?_ _)); exact BK247.out) Tryd.underlying24 rfl (by kernel_rfl)) rfl ?_
    exact ⟨_, by first | rfl | (simp [errW_none, errW_some] <;> rfl) | (simp [*, errW_none, errW_some] <;> rfl), by first | exact Kd.S_nil _ _ _ _ _ | exact Kd.N_nil _ _ _ _ _ | exact Kd.V_nil _ _ _ _ _ | exact Kd.Q_nil _ _ _ _ _ | exact Kd.R_nil _ _ _ _ _, by repeat (first | (with_reducible first | exact HB.out | apply below_alloc | apply pw_below_drewN | apply below_drew1 | refine below_set ?_ GE246.out | refine below_set ?_ GE247.out) | exact HB.out)⟩

end Go.Proofs.YtbioiodjdfcooaaDoor.P
