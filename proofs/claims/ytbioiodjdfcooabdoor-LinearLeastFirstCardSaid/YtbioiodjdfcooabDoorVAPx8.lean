import Derived.Test.YtbioiodjdfcooabDoorVAPx0
import Derived.Test.YtbioiodjdfcooabDoorVAPx3
import Derived.Test.YtbioiodjdfcooabDoorVAPx4
import Derived.WalkMore
-- Written by a program of this session (wip/tools/doprint.sh: the kit's print, with given texts for some functions).
namespace Go.Proofs.YtbioiodjdfcooabDoor.P
open Go.RowKit Go.Proofs.YtbioiodjdfcooabDoorW.PrintWords Go.Proofs.YtbioiodjdfcooabDoorW.PrintLast Go.Proofs.YtbioiodjdfcooabDoorW.PrintMore
attribute [local go_sem] max2_int min2_int max_two min_two max_three min_three max_four min_four   -- for this text's walks alone
set_option linter.unusedVariables false
set_option linter.unusedSimpArgs false

/-! ### linear_Least: function 12 -/
mutual
def linear_Least.j0 : Nat → Int → Bool → Int → List (S35) → Option (List Int × Bool × Int)
  | 0, _, _, _, _ => none
  | k + 1, x1, x21, x169000, x169001 => if x21 = true then (some (([] : List Int), false, 1)) else (linear_Least.l0 k x1 1 x169000 0 x169000 x169001)
def linear_Least.l0 : Nat → Int → Int → Int → Int → Int → List (S35) → Option (List Int × Bool × Int)
  | 0, _, _, _, _, _, _ => none
  | k + 1, x1, x8, x23, x24, x169000, x169001 => if x24 < x23 then (if (wrap64 (x8 * (wrap64 (x1 + 1)))) > 100000 then (some (([] : List Int), false, 4)) else (linear_Least.l0 k x1 (wrap64 (x8 * (wrap64 (x1 + 1)))) x23 (wrap64 (x24 + 1)) x169000 x169001)) else (if 0 ≤ x169000 then (if (x169000 : Int).toNat ≤ 35184372088832 then (linear_Least.l1 k x1 (List.replicate (x169000 : Int).toNat 0) x169000 x169001) else (none)) else (none))
def linear_Least.l1 : Nat → Int → List Int → Int → List (S35) → Option (List Int × Bool × Int)
  | 0, _, _, _, _ => none
  | k + 1, x1, x9, x169000, x169001 => (linear_Satisfies.f k x169000 x169001 x9).bind fun t173 => (if t173 = true then (some (x9, true, 0)) else (linear_Least.l2 k x1 x9 (wrap64 (x169000 - 1)) x169000 x169001))
def linear_Least.l2 : Nat → Int → List Int → Int → Int → List (S35) → Option (List Int × Bool × Int)
  | 0, _, _, _, _, _ => none
  | k + 1, x1, x9, x10, x169000, x169001 => if x10 ≥ 0 then (if 0 ≤ x10 then (if x10 < (x9.length : Int) then (if (rd x9 x10) < x1 then (linear_Least.l1 k x1 (x9.set (x10 : Int).toNat (wrap64 ((rd x9 x10) + 1))) x169000 x169001) else (linear_Least.l2 k x1 (x9.set (x10 : Int).toNat 0) (wrap64 (x10 - 1)) x169000 x169001)) else (none)) else (none)) else (some (([] : List Int), false, 0))
end
def linear_Least.f (k : Nat) (a0_0 : Int) (l0_1 : List (S35)) (a1 : Int) : Option (List Int × Bool × Int) := (linear_Validate.f k a0_0 l0_1).bind fun t169 => (if t169 = 0 then (if a1 < 0 then (linear_Least.j0 k a1 true a0_0 l0_1) else (linear_Least.j0 k a1 (decide (a1 > 1048576)) a0_0 l0_1)) else (some (([] : List Int), false, t169)))
set_option maxHeartbeats 8000000 in
set_option maxRecDepth 100000 in
theorem linear_Least.calls (k : Nat) (a0_0 : Int) (A0_1 : Option Addr) (c0_1 : Nat) (l0_1 : List (S35)) (a1 : Int) (r1 : List Int) (r2 : Bool) (r3 : Int) (w : World) (hr0_1 : Kd.C k35 w A0_1 l0_1.length l0_1) (hc0_1 : l0_1.length ≤ c0_1) (h : linear_Least.f k a0_0 l0_1 a1 = some (r1, r2, r3)) :
    Calls Tryd.prog 12 #[.agg #[.int .i64 a0_0, .slice A0_1 l0_1.length c0_1], .int .i64 a1] w fun e w' => ∃ v0_ : Value, e = .returned (.tuple #[v0_, .bool r2, .int .i64 r3]) ∧ Kd.R (Kd.int .i64) 3 w' w.heap.size (fun _ => True) v0_ r1 ∧ Below w.heap.size w w' := by
  have hu24 := Tryd.underlying24
  have HR0_1 := Aside0.mk hr0_1
  have HC0_1 := Aside0.mk hc0_1
  clear hr0_1 hc0_1
  have HB := Aside0.mk (Below.refl w.heap.size w)
  have H : ((linear_Validate.f k a0_0 l0_1).bind fun t169 => (if t169 = 0 then (if a1 < 0 then (linear_Least.j0 k a1 true a0_0 l0_1) else (linear_Least.j0 k a1 (decide (a1 > 1048576)) a0_0 l0_1)) else (some (([] : List Int), false, t169)))) = some (r1, r2, r3) := h
  clear h
  replace H := Option.bind_eq_some_iff.mp H
  obtain ⟨t169, A30, H⟩ := H
  replace H : (if t169 = 0 then (if a1 < 0 then (linear_Least.j0 k a1 true a0_0 l0_1) else (linear_Least.j0 k a1 (decide (a1 > 1048576)) a0_0 l0_1)) else (some (([] : List Int), false, t169))) = some (r1, r2, r3) := H
  have A3 := Aside0.mk A30
  clear A30
  by_cases c4 : t169 = 0
  · rw [if_pos c4] at H
    have c4b0 : (t169 == 0) = true := beq_iff_eq.mpr c4
    have c4b1 : (t169 != 0) = false := bne_eq_false_iff_eq.mpr c4
    clear c4
    have HC5 := Aside0.mk H
    clear H
    go_enter Tryd.func12, Tryd.ntmps12
    go_upto_region 4 with (first | go_step3 | ((with_reducible refine gate_dst (N := 2) rfl ?_); refine box_event ?hg (N := 2) ?hd (cs := #[.int .i64 a0_0, .slice A0_1 l0_1.length c0_1]) (t := 24) ?hr ?_; (case hd => rfl); (case hg => rfl); (case hr => first | (go_simp; done) | (go_simp; rfl)); intro gb168 hg w6 hbox hb; have n0_ := Aside0.mk (below_step (by repeat (first | (with_reducible first | exact HB.out | apply below_alloc | apply pw_below_drewN | apply below_drew1) | exact HB.out)) hb); have n1_ := Aside0.mk (hbox); have n2_ := Aside0.mk ((by rw [hg]; exact (below_size (by repeat (first | (with_reducible first | exact HB.out | apply below_alloc | apply pw_below_drewN | apply below_drew1) | exact HB.out))) : w.heap.size ≤ gb168)); have n3_ := Aside0.mk ((by rw [hg]; exact (below_size (by repeat (first | (with_reducible first | exact HB.out | apply below_alloc | apply pw_below_drewN | apply below_drew1) | exact HB.out))) : w.heap.size ≤ gb168)); clear HB; have HB := n0_; have BK168 := n1_; have GW168 := n2_; have GE168 := n3_; clear n0_ n1_ n2_ n3_; clear hb hbox hg; have hcz7_0 : w6.cell? ⟨gb168, 0, none⟩ = some (.int .i64 a0_0) := (blk_cell BK168.out 0).trans rfl; have hcz7_1 : w6.cell? ⟨gb168, 1, none⟩ = some (.slice A0_1 l0_1.length c0_1) := (blk_cell BK168.out 1).trans rfl; have hfz7_0 := blk_frozen BK168.out 0; have hfz7_1 := blk_frozen BK168.out 1) | ((with_reducible refine gate_callee (f := 35) rfl ?_); refine goesL_ (some 12) rfl rfl Tryd.func35 (by kernel_rfl) rfl #[.agg #[.int .i64 a0_0, .slice A0_1 l0_1.length c0_1]] rfl (by (try simp only [List.map_toArray, List.map_cons, List.map_nil]); first | done | rfl | (simp only [List.length_drop, List.length_take]; rfl)) ?_; (with_reducible refine (linear_Validate.calls k a0_0 _ _ l0_1 t169 _ ?side1 ?side2 A3.out).mono ?_); (case side1 => repeat (first | exact (Kd.C_below HR0_1.out HB.out) | (with_reducible refine Kd.C_alloc ?_ _) | (with_reducible refine Kd.C_drewN ?_ _) | (with_reducible refine Kd.C_drew ?_))); (case side2 => exact HC0_1.out); rintro e w8 ⟨rfl, hb⟩; refine ⟨_, rfl, ?_⟩; have n0_ := Aside0.mk (blk_below (g := gb168) (o := .cells #[.int .i64 a0_0, .slice A0_1 l0_1.length c0_1] 24 (0, 0)) (by (with_reducible repeat (first | refine blk_drewN ?_ _ | refine blk_drew ?_ | refine blk_alloc ?_ _)); exact BK168.out) hb); have n1_ := Aside0.mk (below_step (by repeat (first | (with_reducible first | exact HB.out | apply below_alloc | apply pw_below_drewN | apply below_drew1 | refine below_set ?_ GE168.out) | exact HB.out)) hb); clear BK168; clear HB; have BK168 := n0_; have HB := n1_; clear n0_ n1_; (try clear hb); (try clear hb2); (try clear hk); (try clear hi)))
    (try simp only [Act.put, List.setIfInBounds_toArray, List.set_cons_zero, List.set_cons_succ])
    go_cut [21] (fun v21 wc => ∃ (kq : Nat) (x21_4 : Bool), v21 = .bool x21_4 ∧ Aside0 (linear_Least.j0 kq a1 x21_4 a0_0 l0_1 = some (r1, r2, r3)) ∧ Aside0 (kq ≤ k) ∧ Aside0 (wc.heap[gb168]? = some (.cells #[.int .i64 a0_0, (.slice A0_1 l0_1.length c0_1)] 24 (0, 0))) ∧ Aside0 (Below w.heap.size w wc))
    case first =>
      have H := HC5.out
      clear HC5
      by_cases c9 : a1 < 0
      · rw [if_pos c9] at H
        have c9b0 : decide (a1 < 0) = true := decide_eq_true c9
        clear c9
        (first | rw [c9b0] | (simp only [i64_w, i32_w]; rw [c9b0]) | skip)
        have H' := Aside0.mk H
        clear H
        go_wp2
        go_meet
        case rel => exact ⟨_, (true), (by first | rfl | (simp; done) | (simp [*]; done)), H', ⟨by first | omega | exact Nat.le_refl _⟩, ⟨by (with_reducible repeat (first | refine blk_drewN ?_ _ | refine blk_drew ?_ | refine blk_alloc ?_ _)); exact BK168.out⟩, ⟨by repeat (first | (with_reducible first | exact HB.out | apply below_alloc | apply pw_below_drewN | apply below_drew1 | refine below_set ?_ GE168.out) | exact HB.out)⟩⟩
      · rw [if_neg c9] at H
        have c9b0 : decide (a1 < 0) = false := decide_eq_false c9
        clear c9
        (first | rw [c9b0] | (simp only [i64_w, i32_w]; rw [c9b0]) | skip)
        have H' := Aside0.mk H
        clear H
        go_wp2
        go_meet
        case rel => exact ⟨_, (decide (a1 > 1048576)), (by first | rfl | (simp; done) | (simp [*]; done)), H', ⟨by first | omega | exact Nat.le_refl _⟩, ⟨by (with_reducible repeat (first | refine blk_drewN ?_ _ | refine blk_drew ?_ | refine blk_alloc ?_ _)); exact BK168.out⟩, ⟨by repeat (first | (with_reducible first | exact HB.out | apply below_alloc | apply pw_below_drewN | apply below_drew1 | refine below_set ?_ GE168.out) | exact HB.out)⟩⟩
    case rest =>
      clear HC5
      try clear c1
      try clear p2
      try clear c3
      try clear c4
      try clear c4b0
      try clear c4b1
      try clear c9
      try clear c9b0
      try clear hcz7_0
      try clear hcz7_1
      try clear hfz7_0
      try clear hfz7_1
      obtain ⟨kq, x21_4, rfl, HA, HJ4, BK168, HB⟩ := hcut
      cases kq with
      | zero => exact absurd HA.out (by simp [linear_Least.j0])
      | succ kj4 =>
        have H := HA.out
        clear HA
        simp only [linear_Least.j0] at H
        by_cases c10 : x21_4 = true
        · subst c10
          have H1 : (some (([] : List Int), false, 1)) = some (r1, r2, r3) := by rw [if_pos rfl] at H; exact H
          clear H
          have H := H1
          clear H1
          simp only [Option.some.injEq, Prod.mk.injEq] at H
          obtain ⟨rfl, rfl, rfl⟩ := H
          go_wp2
          (try simp only [Exit.noGoto_ret])
          go_ret3
          exact ⟨_, by first | rfl | (simp [errW_none, errW_some] <;> rfl) | (simp [*, errW_none, errW_some] <;> rfl), by first | exact Kd.R_nil _ _ _ _ _ | exact Kd.N_nil _ _ _ _ _ | exact Kd.V_nil _ _ _ _ _ | exact Kd.Q_nil _ _ _ _ _ | exact Kd.S_nil _ _ _ _ _, by repeat (first | (with_reducible first | exact HB.out | apply below_alloc | apply pw_below_drewN | apply below_drew1 | refine below_set ?_ GE168.out) | exact HB.out)⟩
        · replace c10 := Bool.eq_false_iff.mpr c10
          subst c10
          have H1 : (linear_Least.l0 kj4 a1 1 a0_0 0 a0_0 l0_1) = some (r1, r2, r3) := by rw [if_neg (show ¬ (false = true) by decide)] at H; exact H
          clear H
          have H := H1
          clear H1
          have H' := Aside0.mk H
          clear H
          have hcz11_0 : wc.cell? ⟨gb168, 0, none⟩ = some (.int .i64 a0_0) := (blk_cell BK168.out 0).trans rfl
          have hcz11_1 : wc.cell? ⟨gb168, 1, none⟩ = some (.slice A0_1 l0_1.length c0_1) := (blk_cell BK168.out 1).trans rfl
          have hfz11_0 := blk_frozen BK168.out 0
          have hfz11_1 := blk_frozen BK168.out 1
          go_wp2
          go_loopg [8, 24] kj4 (fun kq v8 v24 w' => ∃ (x8_2 : Int) (x24_2 : Int), v8 = .int .i64 x8_2 ∧ v24 = .int .i64 x24_2 ∧ Aside0 (linear_Least.l0 kq a1 x8_2 a0_0 x24_2 a0_0 l0_1 = some (r1, r2, r3)) ∧ Aside0 (kq ≤ kj4) ∧ Aside0 (w'.heap[gb168]? = some (.cells #[.int .i64 a0_0, (.slice A0_1 l0_1.length c0_1)] 24 (0, 0))) ∧ Aside0 (Below w.heap.size w w'))
          case atStart => exact ⟨(1), (0), (by first | rfl | (simp; done) | (simp [*]; done)), (by first | rfl | (simp; done) | (simp [*]; done)), H', ⟨Nat.le_refl _⟩, ⟨by (with_reducible repeat (first | refine blk_drewN ?_ _ | refine blk_drew ?_ | refine blk_alloc ?_ _)); exact BK168.out⟩, ⟨by repeat (first | (with_reducible first | exact HB.out | apply below_alloc | apply pw_below_drewN | apply below_drew1 | refine below_set ?_ GE168.out) | exact HB.out)⟩⟩
          case round =>
            clear H'
            try clear c1
            try clear p2
            try clear c3
            try clear c4
            try clear c4b0
            try clear c4b1
            try clear c9
            try clear c9b0
            try clear c10
            try clear hcz11_0
            try clear hcz11_1
            try clear hcz7_0
            try clear hcz7_1
            try clear hfz11_0
            try clear hfz11_1
            try clear hfz7_0
            try clear hfz7_1
            try clear p2
            obtain ⟨x8_2, x24_2, rfl, rfl, HA, HK2, BK168, HB⟩ := hrel
            cases gk with
            | zero => exact absurd HA.out (by simp [linear_Least.l0])
            | succ k2 =>
              have H := HA.out
              clear HA
              simp only [linear_Least.l0] at H
              by_cases c12 : x24_2 < a0_0
              · rw [if_pos c12] at H
                have c12b0 : decide (x24_2 < a0_0) = true := decide_eq_true c12
                clear c12
                by_cases c13 : (wrap64 (x8_2 * (wrap64 (a1 + 1)))) > 100000
                · rw [if_pos c13] at H
                  have c13b0 : decide (100000 < (wrap64 (x8_2 * (wrap64 (a1 + 1))))) = true := decide_eq_true c13
                  clear c13
                  simp only [Option.some.injEq, Prod.mk.injEq] at H
                  obtain ⟨rfl, rfl, rfl⟩ := H
                  go_wp2
                  (try simp only [Exit.noGoto_ret])
                  go_ret3
                  exact ⟨_, by first | rfl | (simp [errW_none, errW_some] <;> rfl) | (simp [*, errW_none, errW_some] <;> rfl), by first | exact Kd.R_nil _ _ _ _ _ | exact Kd.N_nil _ _ _ _ _ | exact Kd.V_nil _ _ _ _ _ | exact Kd.Q_nil _ _ _ _ _ | exact Kd.S_nil _ _ _ _ _, by repeat (first | (with_reducible first | exact HB.out | apply below_alloc | apply pw_below_drewN | apply below_drew1 | refine below_set ?_ GE168.out) | exact HB.out)⟩
                · rw [if_neg c13] at H
                  have c13b0 : decide (100000 < (wrap64 (x8_2 * (wrap64 (a1 + 1))))) = false := decide_eq_false c13
                  clear c13
                  have H' := Aside0.mk H
                  clear H
                  go_wp2
                  go_roundg k2
                  case measure => have := HJ4.out; have := HK2.out; omega
                  case rel => exact ⟨(wrap64 (x8_2 * (wrap64 (a1 + 1)))), (wrap64 (x24_2 + 1)), (by first | rfl | (simp; done) | (simp [*]; done)), (by first | rfl | (simp; done) | (simp [*]; done)), H', ⟨by have := HJ4.out; have := HK2.out; omega⟩, ⟨by (with_reducible repeat (first | refine blk_drewN ?_ _ | refine blk_drew ?_ | refine blk_alloc ?_ _)); exact BK168.out⟩, ⟨by repeat (first | (with_reducible first | exact HB.out | apply below_alloc | apply pw_below_drewN | apply below_drew1 | refine below_set ?_ GE168.out) | exact HB.out)⟩⟩
              · rw [if_neg c12] at H
                have c12b0 : decide (x24_2 < a0_0) = false := decide_eq_false c12
                clear c12
                by_cases c14 : 0 ≤ a0_0
                · rw [if_pos c14] at H
                  have c14b0 := eq_true c14
                  have c14b1 : decide (0 ≤ a0_0) = true := decide_eq_true c14
                  clear c14
                  by_cases c15 : (a0_0 : Int).toNat ≤ 35184372088832
                  · rw [if_pos c15] at H
                    have c15b0 := eq_true c15
                    have c15b1 : decide ((a0_0 : Int).toNat ≤ 35184372088832) = true := decide_eq_true c15
                    clear c15
                    obtain ⟨y170, hy170⟩ : ∃ y_ : List Int, y_ = (List.replicate (a0_0 : Int).toNat 0) := ⟨_, rfl⟩
                    replace H : (linear_Least.l1 k2 a1 y170 a0_0 l0_1) = some (r1, r2, r3) := by first | (rw [hy170]; with_reducible exact H) | (have H2_ := (Option.bind_some _ _).symm.trans H; rw [hy170]; with_reducible exact H2_) | (have H2_ := (Option.bind_some _ _).symm.trans H; with_reducible exact H2_) | with_reducible exact H | (rw [hy170]; exact H) | exact H
                    have Ny170 := Aside0.mk hy170
                    clear hy170
                    have H' := Aside0.mk H
                    clear H
                    have hcz16_0 : wr.cell? ⟨gb168, 0, none⟩ = some (.int .i64 a0_0) := (blk_cell BK168.out 0).trans rfl
                    have hcz16_1 : wr.cell? ⟨gb168, 1, none⟩ = some (.slice A0_1 l0_1.length c0_1) := (blk_cell BK168.out 1).trans rfl
                    have hfz16_0 := blk_frozen BK168.out 0
                    have hfz16_1 := blk_frozen BK168.out 1
                    go_wp2_with (first | go_step3 | ((with_reducible refine gate_dst (N := 35) rfl ?_); refine Kd.R_make (Kd.int .i64) _ 3 rfl (N := 35) rfl 25 _ _ rfl a0_0 rfl rfl Tryd.underlying25 (.int .i64 0) 8 info3 rfl (by decide) (by omega) 0 (ok := fun _ => True) (okp := fun _ => True) rfl (fun _ hk => hk) trivial (of_decide_eq_true (by first | (with_reducible assumption) | assumption)) (Nat.le_trans (Nat.mul_le_mul_right _ (of_decide_eq_true (by first | (with_reducible assumption) | assumption) : a0_0.toNat ≤ 35184372088832)) (by omega)) (Below.refl _ _) (Nat.le_refl _) ?_; intro v171 w17 ho18 hb hg_ hnew_; clear hg_ hnew_; (first | rw [← Ny170.out] at ho18 | (simp only [Int.reduceToNat] at ho18; rw [← Ny170.out] at ho18)); have n0_ := Aside0.mk (Kd.R_lower ho18 (below_size (by repeat (first | (with_reducible first | exact HB.out | apply below_alloc | apply pw_below_drewN | apply below_drew1 | refine below_set ?_ GE168.out) | exact HB.out)))); have n1_ := Aside0.mk (blk_below (g := gb168) (o := .cells #[.int .i64 a0_0, .slice A0_1 l0_1.length c0_1] 24 (0, 0)) (by (with_reducible repeat (first | refine blk_drewN ?_ _ | refine blk_drew ?_ | refine blk_alloc ?_ _)); exact BK168.out) hb); have n2_ := Aside0.mk (below_step (by repeat (first | (with_reducible first | exact HB.out | apply below_alloc | apply pw_below_drewN | apply below_drew1 | refine below_set ?_ GE168.out) | exact HB.out)) hb); clear BK168; clear HB; have HO172 := n0_; have BK168 := n1_; have HB := n2_; clear n0_ n1_ n2_; clear hb ho18))
                    go_loopg [] k2 (fun kq w' => ∃ (x9_3 : List Int), Aside0 (linear_Least.l1 kq a1 x9_3 a0_0 l0_1 = some (r1, r2, r3)) ∧ Aside0 (kq ≤ k2) ∧ Aside0 (Kd.R (Kd.int .i64) 3 w' w.heap.size (fun _ => True) v171 x9_3) ∧ Aside0 (w'.heap[gb168]? = some (.cells #[.int .i64 a0_0, (.slice A0_1 l0_1.length c0_1)] 24 (0, 0))) ∧ Aside0 (Below w.heap.size w w'))
                    case atStart => exact ⟨(y170), H', ⟨Nat.le_refl _⟩, ⟨by (with_reducible repeat (first | apply Kd.R_alloc | apply Kd.R_drewN | apply Kd.R_drew)); exact HO172.out⟩, ⟨by (with_reducible repeat (first | refine blk_drewN ?_ _ | refine blk_drew ?_ | refine blk_alloc ?_ _)); exact BK168.out⟩, ⟨by repeat (first | (with_reducible first | exact HB.out | apply below_alloc | apply pw_below_drewN | apply below_drew1 | refine below_set ?_ GE168.out) | exact HB.out)⟩⟩
                    case round =>
                      clear H'
                      try clear c1
                      try clear p2
                      try clear c3
                      try clear c4
                      try clear c4b0
                      try clear c4b1
                      try clear p6
                      try clear c9
                      try clear c9b0
                      try clear c10
                      try clear c12
                      try clear c12b0
                      try clear c13
                      try clear c13b0
                      try clear c14
                      try clear c14b0
                      try clear c14b1
                      try clear c15
                      try clear c15b0
                      try clear c15b1
                      try clear hcz11_0
                      try clear hcz11_1
                      try clear hcz16_0
                      try clear hcz16_1
                      try clear hcz7_0
                      try clear hcz7_1
                      try clear hfz11_0
                      try clear hfz11_1
                      try clear hfz16_0
                      try clear hfz16_1
                      try clear hfz7_0
                      try clear hfz7_1
                      try clear p2
                      obtain ⟨x9_3, HA, HK3, HO_9, BK168, HB⟩ := hrel
                      cases gk with
                      | zero => exact absurd HA.out (by simp [linear_Least.l1])
                      | succ k3 =>
                        have H := HA.out
                        clear HA
                        simp only [linear_Least.l1] at H
                        replace H := Option.bind_eq_some_iff.mp H
                        obtain ⟨t173, A190, H⟩ := H
                        replace H : (if t173 = true then (some (x9_3, true, 0)) else (linear_Least.l2 k3 a1 x9_3 (wrap64 (a0_0 - 1)) a0_0 l0_1)) = some (r1, r2, r3) := H
                        have A19 := Aside0.mk A190
                        clear A190
                        by_cases c20 : t173 = true
                        · subst c20
                          have H1 : (some (x9_3, true, 0)) = some (r1, r2, r3) := by rw [if_pos rfl] at H; exact H
                          clear H
                          have H := H1
                          clear H1
                          simp only [Option.some.injEq, Prod.mk.injEq] at H
                          obtain ⟨rfl, rfl, rfl⟩ := H
                          have hcz21_0 : wr.cell? ⟨gb168, 0, none⟩ = some (.int .i64 a0_0) := (blk_cell BK168.out 0).trans rfl
                          have hcz21_1 : wr.cell? ⟨gb168, 1, none⟩ = some (.slice A0_1 l0_1.length c0_1) := (blk_cell BK168.out 1).trans rfl
                          have hfz21_0 := blk_frozen BK168.out 0
                          have hfz21_1 := blk_frozen BK168.out 1
                          obtain ⟨Ao22, co22, eo22⟩ := Kd.R_slice HO_9.out
                          subst eo22
                          go_wp2_with (first | go_step3 | ((with_reducible refine gate_callee (f := 13) rfl ?_); refine goesL_ (some 38) rfl rfl Tryd.func13 (by kernel_rfl) rfl #[.agg #[.int .i64 a0_0, .slice A0_1 l0_1.length c0_1], .slice Ao22 x9_3.length co22] rfl (by (try simp only [List.map_toArray, List.map_cons, List.map_nil]); first | done | rfl | (simp only [List.length_drop, List.length_take]; rfl)) ?_; (with_reducible refine (linear_Satisfies.calls k3 a0_0 _ _ l0_1 _ _ x9_3 true _ ?side1 ?side2 ?side3 ?side4 A19.out).mono ?_); (case side1 => repeat (first | exact (Kd.C_below HR0_1.out HB.out) | (with_reducible refine Kd.C_alloc ?_ _) | (with_reducible refine Kd.C_drewN ?_ _) | (with_reducible refine Kd.C_drew ?_))); (case side2 => exact HC0_1.out); (case side3 => repeat (first | exact (Kd.R_reads' HO_9.out).2.2 | (with_reducible refine Kd.C_alloc ?_ _) | (with_reducible refine Kd.C_drewN ?_ _) | (with_reducible refine Kd.C_drew ?_))); (case side4 => exact (Kd.R_reads' HO_9.out).2.1); rintro e w23 ⟨rfl, hb⟩; refine ⟨_, rfl, ?_⟩; have n0_ := Aside0.mk (Kd.R_below (by (with_reducible repeat (first | apply Kd.R_alloc | apply Kd.R_drewN | apply Kd.R_drew)); exact HO_9.out) hb); have n1_ := Aside0.mk (blk_below (g := gb168) (o := .cells #[.int .i64 a0_0, .slice A0_1 l0_1.length c0_1] 24 (0, 0)) (by (with_reducible repeat (first | refine blk_drewN ?_ _ | refine blk_drew ?_ | refine blk_alloc ?_ _)); exact BK168.out) hb); have n2_ := Aside0.mk (below_step (by repeat (first | (with_reducible first | exact HB.out | apply below_alloc | apply pw_below_drewN | apply below_drew1 | refine below_set ?_ GE168.out) | exact HB.out)) hb); clear HO_9; clear BK168; clear HB; have HO_9 := n0_; have BK168 := n1_; have HB := n2_; clear n0_ n1_ n2_; (try clear hb); (try clear hb2); (try clear hk); (try clear hi)))
                          (try simp only [Exit.noGoto_ret])
                          go_ret3
                          exact ⟨_, by first | rfl | (simp [errW_none, errW_some] <;> rfl) | (simp [*, errW_none, errW_some] <;> rfl), by (with_reducible repeat (first | apply Kd.R_alloc | apply Kd.R_drewN | apply Kd.R_drew)); exact HO_9.out, by repeat (first | (with_reducible first | exact HB.out | apply below_alloc | apply pw_below_drewN | apply below_drew1 | refine below_set ?_ GE168.out) | exact HB.out)⟩
                        · replace c20 := Bool.eq_false_iff.mpr c20
                          subst c20
                          have H1 : (linear_Least.l2 k3 a1 x9_3 (wrap64 (a0_0 - 1)) a0_0 l0_1) = some (r1, r2, r3) := by rw [if_neg (show ¬ (false = true) by decide)] at H; exact H
                          clear H
                          have H := H1
                          clear H1
                          have H' := Aside0.mk H
                          clear H
                          have hcz24_0 : wr.cell? ⟨gb168, 0, none⟩ = some (.int .i64 a0_0) := (blk_cell BK168.out 0).trans rfl
                          have hcz24_1 : wr.cell? ⟨gb168, 1, none⟩ = some (.slice A0_1 l0_1.length c0_1) := (blk_cell BK168.out 1).trans rfl
                          have hfz24_0 := blk_frozen BK168.out 0
                          have hfz24_1 := blk_frozen BK168.out 1
                          obtain ⟨Ao25, co25, eo25⟩ := Kd.R_slice HO_9.out
                          subst eo25
                          go_wp2_with (first | go_step3 | ((with_reducible refine gate_callee (f := 13) rfl ?_); refine goesL_ (some 38) rfl rfl Tryd.func13 (by kernel_rfl) rfl #[.agg #[.int .i64 a0_0, .slice A0_1 l0_1.length c0_1], .slice Ao25 x9_3.length co25] rfl (by (try simp only [List.map_toArray, List.map_cons, List.map_nil]); first | done | rfl | (simp only [List.length_drop, List.length_take]; rfl)) ?_; (with_reducible refine (linear_Satisfies.calls k3 a0_0 _ _ l0_1 _ _ x9_3 false _ ?side1 ?side2 ?side3 ?side4 A19.out).mono ?_); (case side1 => repeat (first | exact (Kd.C_below HR0_1.out HB.out) | (with_reducible refine Kd.C_alloc ?_ _) | (with_reducible refine Kd.C_drewN ?_ _) | (with_reducible refine Kd.C_drew ?_))); (case side2 => exact HC0_1.out); (case side3 => repeat (first | exact (Kd.R_reads' HO_9.out).2.2 | (with_reducible refine Kd.C_alloc ?_ _) | (with_reducible refine Kd.C_drewN ?_ _) | (with_reducible refine Kd.C_drew ?_))); (case side4 => exact (Kd.R_reads' HO_9.out).2.1); rintro e w26 ⟨rfl, hb⟩; refine ⟨_, rfl, ?_⟩; have n0_ := Aside0.mk (Kd.R_below (by (with_reducible repeat (first | apply Kd.R_alloc | apply Kd.R_drewN | apply Kd.R_drew)); exact HO_9.out) hb); have n1_ := Aside0.mk (blk_below (g := gb168) (o := .cells #[.int .i64 a0_0, .slice A0_1 l0_1.length c0_1] 24 (0, 0)) (by (with_reducible repeat (first | refine blk_drewN ?_ _ | refine blk_drew ?_ | refine blk_alloc ?_ _)); exact BK168.out) hb); have n2_ := Aside0.mk (below_step (by repeat (first | (with_reducible first | exact HB.out | apply below_alloc | apply pw_below_drewN | apply below_drew1 | refine below_set ?_ GE168.out) | exact HB.out)) hb); clear HO_9; clear BK168; clear HB; have HO_9 := n0_; have BK168 := n1_; have HB := n2_; clear n0_ n1_ n2_; (try clear hb); (try clear hb2); (try clear hk); (try clear hi); have hcz27_0 : w26.cell? ⟨gb168, 0, none⟩ = some (.int .i64 a0_0) := (blk_cell BK168.out 0).trans rfl; have hcz27_1 : w26.cell? ⟨gb168, 1, none⟩ = some (.slice A0_1 l0_1.length c0_1) := (blk_cell BK168.out 1).trans rfl; have hfz27_0 := blk_frozen BK168.out 0; have hfz27_1 := blk_frozen BK168.out 1))
                          go_loopg [10] k3 (fun kq v10 w' => ∃ (x9_4 : List Int) (x10_4 : Int), v10 = .int .i64 x10_4 ∧ Aside0 (linear_Least.l2 kq a1 x9_4 x10_4 a0_0 l0_1 = some (r1, r2, r3)) ∧ Aside0 (kq ≤ k3) ∧ Aside0 (Kd.R (Kd.int .i64) 3 w' w.heap.size (fun _ => True) (.slice Ao25 x9_3.length co25) x9_4) ∧ Aside0 (w'.heap[gb168]? = some (.cells #[.int .i64 a0_0, (.slice A0_1 l0_1.length c0_1)] 24 (0, 0))) ∧ Aside0 (Below w.heap.size w w'))
                          case atStart => exact ⟨(x9_3), (wrap64 (a0_0 - 1)), (by first | rfl | (simp; done) | (simp [*]; done)), H', ⟨Nat.le_refl _⟩, ⟨by (with_reducible repeat (first | apply Kd.R_alloc | apply Kd.R_drewN | apply Kd.R_drew)); exact HO_9.out⟩, ⟨by (with_reducible repeat (first | refine blk_drewN ?_ _ | refine blk_drew ?_ | refine blk_alloc ?_ _)); exact BK168.out⟩, ⟨by repeat (first | (with_reducible first | exact HB.out | apply below_alloc | apply pw_below_drewN | apply below_drew1 | refine below_set ?_ GE168.out) | exact HB.out)⟩⟩
                          case round =>
                            clear H'
                            try clear c1
                            try clear c2
                            try clear p2
                            try clear c3
                            try clear c4
                            try clear c4b0
                            try clear c4b1
                            try clear p6
                            try clear c9
                            try clear c9b0
                            try clear c10
                            try clear c12
                            try clear c12b0
                            try clear c13
                            try clear c13b0
                            try clear c14
                            try clear c14b0
                            try clear c14b1
                            try clear c15
                            try clear c15b0
                            try clear c15b1
                            try clear c20
                            try clear hcz11_0
                            try clear hcz11_1
                            try clear hcz16_0
                            try clear hcz16_1
                            try clear hcz21_0
                            try clear hcz21_1
                            try clear hcz24_0
                            try clear hcz24_1
                            try clear hcz27_0
                            try clear hcz27_1
                            try clear hcz7_0
                            try clear hcz7_1
                            try clear hfz11_0
                            try clear hfz11_1
                            try clear hfz16_0
                            try clear hfz16_1
                            try clear hfz21_0
                            try clear hfz21_1
                            try clear hfz24_0
                            try clear hfz24_1
                            try clear hfz27_0
                            try clear hfz27_1
                            try clear hfz7_0
                            try clear hfz7_1
                            try clear p2
                            try clear p6
                            obtain ⟨x9_4, x10_4, rfl, HA, HK4, HO_9, BK168, HB⟩ := hrel
                            have hl9_4 := (Kd.R_reads' HO_9.out).1
                            rw [hl9_4] at HO_9
                            (try simp only [hl9_4])
                            (try simp only [hl9_4] at BK168)
                            cases gk with
                            | zero => exact absurd HA.out (by simp [linear_Least.l2])
                            | succ k4 =>
                              have H := HA.out
                              clear HA
                              simp only [linear_Least.l2] at H
                              by_cases c28 : x10_4 ≥ 0
                              · rw [if_pos c28] at H
                                have c28b0 : decide (0 ≤ x10_4) = true := decide_eq_true c28
                                clear c28
                                by_cases c29 : 0 ≤ x10_4
                                · rw [if_pos c29] at H
                                  have c29b0 : decide (0 ≤ x10_4) = true := decide_eq_true c29
                                  clear c29
                                  by_cases c30 : x10_4 < (x9_4.length : Int)
                                  · rw [if_pos c30] at H
                                    have c30b0 : decide (x10_4 < (x9_4.length : Int)) = true := decide_eq_true c30
                                    clear c30
                                    by_cases c31 : (rd x9_4 x10_4) < a1
                                    · rw [if_pos c31] at H
                                      have c31b0 : decide ((rd x9_4 x10_4) < a1) = true := decide_eq_true c31
                                      clear c31
                                      obtain ⟨y176, hy176⟩ : ∃ y_ : List Int, y_ = (x9_4.set (x10_4 : Int).toNat (wrap64 ((rd x9_4 x10_4) + 1))) := ⟨_, rfl⟩
                                      replace H : (linear_Least.l1 k4 a1 y176 a0_0 l0_1) = some (r1, r2, r3) := by first | (rw [hy176]; with_reducible exact H) | (have H2_ := (Option.bind_some _ _).symm.trans H; rw [hy176]; with_reducible exact H2_) | (have H2_ := (Option.bind_some _ _).symm.trans H; with_reducible exact H2_) | with_reducible exact H | (rw [hy176]; exact H) | exact H
                                      have Ny176 := Aside0.mk hy176
                                      clear hy176
                                      have H' := Aside0.mk H
                                      clear H
                                      have p174 : 0 ≤ (x10_4 : Int) := of_decide_eq_true (by first | (with_reducible assumption) | assumption)
                                      have q174 : x10_4 < (x9_4.length : Int) := of_decide_eq_true (by first | (with_reducible assumption) | assumption)
                                      obtain ⟨ad174, e174, hx174_0⟩ := Kd.at_int (Kd.R_reads' HO_9.out).2.2 x10_4 p174 q174
                                      cases e174
                                      replace p174 := eq_true p174
                                      replace q174 := eq_true q174
                                      have p175 : 0 ≤ (x10_4 : Int) := of_decide_eq_true (by first | (with_reducible assumption) | assumption)
                                      have q175 : x10_4 < (x9_4.length : Int) := of_decide_eq_true (by first | (with_reducible assumption) | assumption)
                                      obtain ⟨ad175, e175, hx175_0⟩ := Kd.at_int (Kd.R_reads' HO_9.out).2.2 x10_4 p175 q175
                                      obtain rfl : ad174 = ad175 := (by injection e175)
                                      replace p175 := eq_true p175
                                      replace q175 := eq_true q175
                                      have p32 : 0 ≤ (x10_4 : Int) := of_decide_eq_true (by first | (with_reducible assumption) | assumption)
                                      have q32 : (x10_4 : Int) < ((x9_4.length : Int) : Int) := of_decide_eq_true (by first | (with_reducible assumption) | assumption)
                                      obtain ⟨go32, co32, eo32, gb32, gl32, cl32, HG32⟩ := Kd.R_form HO_9.out (by omega)
                                      (first | cases eo32 | (injection eo32 with ea_ en_ ec_; (first | subst ea_ | (injection ea_ with ea_; subst ea_)); subst ec_; clear en_))
                                      have GB32 := Aside0.mk gb32
                                      have GG32 := Aside0.mk HG32
                                      clear gb32 gl32 HG32
                                      (first | simp only [add_plain] at hx174_0 | skip)
                                      (first | simp only [add_plain] at hx175_0 | skip)
                                      obtain ⟨hx32_0, hf32_0⟩ := Kd.R_celln 0 HO_9.out (x10_4 : Int) p32 q32
                                      replace p32 := eq_true p32
                                      replace q32 := eq_true q32
                                      have HP33 := Kd.R_putg HO_9.out (x10_4 : Int) (wrap64 ((rd x9_4 x10_4) + 1))
                                      go_wp2_with (first | go_step3 | ((with_reducible refine gate_store (t := 3) (p := 58) rfl ?_); refine store_event (t := 3) (p := 58) (v := ?vo_w34) (w1 := (wr.setCell ⟨go32, (x10_4 : Int).toNat, none⟩ (.int .i64 (wrap64 ((rd x9_4 x10_4) + 1))))) ?hg ?ho ?hn ?hr ?_; (case ho => rfl); (case hg => rfl); (case hn => rfl); (case hr => first | (go_simp; done) | (go_simp; rfl)); intro w34 hw; have hg : wr.grownBy w34 (some go32) := (by rw [hw]; exact HP33.2); have hp_ : Kd.R (Kd.int .i64) 3 w34 w.heap.size (fun _ => True) (.slice (some ⟨go32, 0, none⟩) x9_4.length co25) y176 := (by rw [hw, Ny176.out]; exact HP33.1); clear HP33; have n0_ := Aside0.mk (hp_); have n1_ := Aside0.mk (blk_grown (g := gb168) (o := .cells #[.int .i64 a0_0, .slice A0_1 l0_1.length c0_1] 24 (0, 0)) (by (with_reducible repeat (first | refine blk_drewN ?_ _ | refine blk_drew ?_ | refine blk_alloc ?_ _)); exact BK168.out) hg (Kd.R_ne HO_9.out BK168.out (by decide))); have n2_ := Aside0.mk ((by rw [hw]; exact below_set (HB.out) GB32.out : Below w.heap.size w w34)); clear HO_9; clear BK168; clear HB; have HO_9 := n0_; have BK168 := n1_; have HB := n2_; clear n0_ n1_ n2_; clear hg hw hp_))
                                      (try simp only [← hl9_4])
                                      go_roundg k4
                                      case measure => have := HJ4.out; have := HK2.out; have := HK3.out; have := HK4.out; omega
                                      case rel => exact ⟨(y176), H', ⟨by have := HJ4.out; have := HK2.out; have := HK3.out; have := HK4.out; omega⟩, ⟨by (try simp only [hl9_4]); (with_reducible repeat (first | apply Kd.R_alloc | apply Kd.R_drewN | apply Kd.R_drew)); exact HO_9.out⟩, ⟨by (try simp only [hl9_4]); (with_reducible repeat (first | refine blk_drewN ?_ _ | refine blk_drew ?_ | refine blk_alloc ?_ _)); exact BK168.out⟩, ⟨by repeat (first | (with_reducible first | exact HB.out | apply below_alloc | apply pw_below_drewN | apply below_drew1 | refine below_set ?_ GE168.out) | exact HB.out)⟩⟩
                                    · rw [if_neg c31] at H
                                      have c31b0 : decide ((rd x9_4 x10_4) < a1) = false := decide_eq_false c31
                                      clear c31
                                      obtain ⟨y177, hy177⟩ : ∃ y_ : List Int, y_ = (x9_4.set (x10_4 : Int).toNat 0) := ⟨_, rfl⟩
                                      replace H : (linear_Least.l2 k4 a1 y177 (wrap64 (x10_4 - 1)) a0_0 l0_1) = some (r1, r2, r3) := by first | (rw [hy177]; with_reducible exact H) | (have H2_ := (Option.bind_some _ _).symm.trans H; rw [hy177]; with_reducible exact H2_) | (have H2_ := (Option.bind_some _ _).symm.trans H; with_reducible exact H2_) | with_reducible exact H | (rw [hy177]; exact H) | exact H
                                      have Ny177 := Aside0.mk hy177
                                      clear hy177
                                      have H' := Aside0.mk H
                                      clear H
                                      have p174 : 0 ≤ (x10_4 : Int) := of_decide_eq_true (by first | (with_reducible assumption) | assumption)
                                      have q174 : x10_4 < (x9_4.length : Int) := of_decide_eq_true (by first | (with_reducible assumption) | assumption)
                                      obtain ⟨ad174, e174, hx174_0⟩ := Kd.at_int (Kd.R_reads' HO_9.out).2.2 x10_4 p174 q174
                                      cases e174
                                      replace p174 := eq_true p174
                                      replace q174 := eq_true q174
                                      have p35 : 0 ≤ (x10_4 : Int) := of_decide_eq_true (by first | (with_reducible assumption) | assumption)
                                      have q35 : (x10_4 : Int) < ((x9_4.length : Int) : Int) := of_decide_eq_true (by first | (with_reducible assumption) | assumption)
                                      obtain ⟨go35, co35, eo35, gb35, gl35, cl35, HG35⟩ := Kd.R_form HO_9.out (by omega)
                                      (first | cases eo35 | (injection eo35 with ea_ en_ ec_; (first | subst ea_ | (injection ea_ with ea_; subst ea_)); subst ec_; clear en_))
                                      have GB35 := Aside0.mk gb35
                                      have GG35 := Aside0.mk HG35
                                      clear gb35 gl35 HG35
                                      (first | simp only [add_plain] at hx174_0 | skip)
                                      obtain ⟨hx35_0, hf35_0⟩ := Kd.R_celln 0 HO_9.out (x10_4 : Int) p35 q35
                                      replace p35 := eq_true p35
                                      replace q35 := eq_true q35
                                      have HP36 := Kd.R_putg HO_9.out (x10_4 : Int) 0
                                      go_wp2_with (first | go_step3 | ((with_reducible refine gate_store (t := 3) (p := 61) rfl ?_); refine store_event (t := 3) (p := 61) (v := ?vo_w37) (w1 := (wr.setCell ⟨go35, (x10_4 : Int).toNat, none⟩ (.int .i64 0))) ?hg ?ho ?hn ?hr ?_; (case ho => rfl); (case hg => rfl); (case hn => rfl); (case hr => first | (go_simp; done) | (go_simp; rfl)); intro w37 hw; have hg : wr.grownBy w37 (some go35) := (by rw [hw]; exact HP36.2); have hp_ : Kd.R (Kd.int .i64) 3 w37 w.heap.size (fun _ => True) (.slice (some ⟨go35, 0, none⟩) x9_4.length co25) y177 := (by rw [hw, Ny177.out]; exact HP36.1); clear HP36; have n0_ := Aside0.mk (hp_); have n1_ := Aside0.mk (blk_grown (g := gb168) (o := .cells #[.int .i64 a0_0, .slice A0_1 l0_1.length c0_1] 24 (0, 0)) (by (with_reducible repeat (first | refine blk_drewN ?_ _ | refine blk_drew ?_ | refine blk_alloc ?_ _)); exact BK168.out) hg (Kd.R_ne HO_9.out BK168.out (by decide))); have n2_ := Aside0.mk ((by rw [hw]; exact below_set (HB.out) GB35.out : Below w.heap.size w w37)); clear HO_9; clear BK168; clear HB; have HO_9 := n0_; have BK168 := n1_; have HB := n2_; clear n0_ n1_ n2_; clear hg hw hp_))
                                      (try simp only [← hl9_4])
                                      go_roundg k4
                                      case measure => have := HJ4.out; have := HK2.out; have := HK3.out; have := HK4.out; omega
                                      case rel => exact ⟨(y177), (wrap64 (x10_4 - 1)), (by first | rfl | (simp; done) | (simp [*]; done)), H', ⟨by have := HJ4.out; have := HK2.out; have := HK3.out; have := HK4.out; omega⟩, ⟨by (try simp only [hl9_4]); (with_reducible repeat (first | apply Kd.R_alloc | apply Kd.R_drewN | apply Kd.R_drew)); exact HO_9.out⟩, ⟨by (try simp only [hl9_4]); (with_reducible repeat (first | refine blk_drewN ?_ _ | refine blk_drew ?_ | refine blk_alloc ?_ _)); exact BK168.out⟩, ⟨by repeat (first | (with_reducible first | exact HB.out | apply below_alloc | apply pw_below_drewN | apply below_drew1 | refine below_set ?_ GE168.out) | exact HB.out)⟩⟩
                                  · rw [if_neg c30] at H
                                    exact absurd H (by simp)
                                · rw [if_neg c29] at H
                                  exact absurd H (by simp)
                              · rw [if_neg c28] at H
                                have c28b0 : decide (0 ≤ x10_4) = false := decide_eq_false c28
                                clear c28
                                simp only [Option.some.injEq, Prod.mk.injEq] at H
                                obtain ⟨rfl, rfl, rfl⟩ := H
                                go_wp2
                                (try simp only [Exit.noGoto_ret])
                                go_ret3
                                exact ⟨_, by first | rfl | (simp [errW_none, errW_some] <;> rfl) | (simp [*, errW_none, errW_some] <;> rfl), by first | exact Kd.R_nil _ _ _ _ _ | exact Kd.N_nil _ _ _ _ _ | exact Kd.V_nil _ _ _ _ _ | exact Kd.Q_nil _ _ _ _ _ | exact Kd.S_nil _ _ _ _ _, by repeat (first | (with_reducible first | exact HB.out | apply below_alloc | apply pw_below_drewN | apply below_drew1 | refine below_set ?_ GE168.out) | exact HB.out)⟩
                  · rw [if_neg c15] at H
                    exact absurd H (by simp)
                · rw [if_neg c14] at H
                  exact absurd H (by simp)
  · rw [if_neg c4] at H
    have c4b0 : (t169 == 0) = false := beq_eq_false_iff_ne.mpr c4
    have c4b1 : (t169 != 0) = true := bne_iff_ne.mpr c4
    simp only [Option.some.injEq, Prod.mk.injEq] at H
    obtain ⟨rfl, rfl, rfl⟩ := H
    go_enter Tryd.func12, Tryd.ntmps12
    go_wp2_with (first | go_step3 | ((with_reducible refine gate_dst (N := 2) rfl ?_); refine box_event ?hg (N := 2) ?hd (cs := #[.int .i64 a0_0, .slice A0_1 l0_1.length c0_1]) (t := 24) ?hr ?_; (case hd => rfl); (case hg => rfl); (case hr => first | (go_simp; done) | (go_simp; rfl)); intro gb168 hg w38 hbox hb; have n0_ := Aside0.mk (below_step (by repeat (first | (with_reducible first | exact HB.out | apply below_alloc | apply pw_below_drewN | apply below_drew1) | exact HB.out)) hb); have n1_ := Aside0.mk (hbox); have n2_ := Aside0.mk ((by rw [hg]; exact (below_size (by repeat (first | (with_reducible first | exact HB.out | apply below_alloc | apply pw_below_drewN | apply below_drew1) | exact HB.out))) : w.heap.size ≤ gb168)); have n3_ := Aside0.mk ((by rw [hg]; exact (below_size (by repeat (first | (with_reducible first | exact HB.out | apply below_alloc | apply pw_below_drewN | apply below_drew1) | exact HB.out))) : w.heap.size ≤ gb168)); clear HB; have HB := n0_; have BK168 := n1_; have GW168 := n2_; have GE168 := n3_; clear n0_ n1_ n2_ n3_; clear hb hbox hg; have hcz39_0 : w38.cell? ⟨gb168, 0, none⟩ = some (.int .i64 a0_0) := (blk_cell BK168.out 0).trans rfl; have hcz39_1 : w38.cell? ⟨gb168, 1, none⟩ = some (.slice A0_1 l0_1.length c0_1) := (blk_cell BK168.out 1).trans rfl; have hfz39_0 := blk_frozen BK168.out 0; have hfz39_1 := blk_frozen BK168.out 1) | ((with_reducible refine gate_callee (f := 35) rfl ?_); refine goesL_ (some 12) rfl rfl Tryd.func35 (by kernel_rfl) rfl #[.agg #[.int .i64 a0_0, .slice A0_1 l0_1.length c0_1]] rfl (by (try simp only [List.map_toArray, List.map_cons, List.map_nil]); first | done | rfl | (simp only [List.length_drop, List.length_take]; rfl)) ?_; (with_reducible refine (linear_Validate.calls k a0_0 _ _ l0_1 t169 _ ?side1 ?side2 A3.out).mono ?_); (case side1 => repeat (first | exact (Kd.C_below HR0_1.out HB.out) | (with_reducible refine Kd.C_alloc ?_ _) | (with_reducible refine Kd.C_drewN ?_ _) | (with_reducible refine Kd.C_drew ?_))); (case side2 => exact HC0_1.out); rintro e w40 ⟨rfl, hb⟩; refine ⟨_, rfl, ?_⟩; have n0_ := Aside0.mk (blk_below (g := gb168) (o := .cells #[.int .i64 a0_0, .slice A0_1 l0_1.length c0_1] 24 (0, 0)) (by (with_reducible repeat (first | refine blk_drewN ?_ _ | refine blk_drew ?_ | refine blk_alloc ?_ _)); exact BK168.out) hb); have n1_ := Aside0.mk (below_step (by repeat (first | (with_reducible first | exact HB.out | apply below_alloc | apply pw_below_drewN | apply below_drew1 | refine below_set ?_ GE168.out) | exact HB.out)) hb); clear BK168; clear HB; have BK168 := n0_; have HB := n1_; clear n0_ n1_; (try clear hb); (try clear hb2); (try clear hk); (try clear hi)))
    (try simp only [Exit.noGoto_ret])
    go_ret3
    exact ⟨_, by first | rfl | (simp [errW_none, errW_some] <;> rfl) | (simp [*, errW_none, errW_some] <;> rfl), by first | exact Kd.R_nil _ _ _ _ _ | exact Kd.N_nil _ _ _ _ _ | exact Kd.V_nil _ _ _ _ _ | exact Kd.Q_nil _ _ _ _ _ | exact Kd.S_nil _ _ _ _ _, by repeat (first | (with_reducible first | exact HB.out | apply below_alloc | apply pw_below_drewN | apply below_drew1 | refine below_set ?_ GE168.out) | exact HB.out)⟩

end Go.Proofs.YtbioiodjdfcooabDoor.P
