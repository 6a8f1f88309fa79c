import Derived.Test.YtbioiodjdfcooaaDoorVDPx0
import Derived.Test.YtbioiodjdfcooaaDoorVDPx8
import Derived.Test.YtbioiodjdfcooaaDoorVDPx9
import Derived.Test.YtbioiodjdfcooaaDoorVDPx13
-- Written by a program of this session (wip/tools/doprint.sh: the kit's print, with given texts for some functions).
namespace Go.Proofs.YtbioiodjdfcooaaDoor.P
open Go.RowKit Go.Proofs.YtbioiodjdfcooaaDoorW.PrintWords Go.Proofs.YtbioiodjdfcooaaDoorW.PrintLast Go.Proofs.YtbioiodjdfcooaaDoorW.PrintMore
attribute [local go_sem] max2_int min2_int max_two min_two max_three min_three max_four min_four   -- for this text's walks alone
set_option linter.unusedVariables false
set_option linter.unusedSimpArgs false

/-! ### familycheckref01_Least: function 47 -/
mutual
def familycheckref01_Least.l0 : Nat → Int → Int → Int → Int → List (S33) → Option (List Int × Bool × Int)
  | 0, _, _, _, _, _ => none
  | k + 1, x1, x8, x9, x575000, x575001 => if x9 < x575000 then (if (wrap64 (x8 * (wrap64 (x1 + 1)))) > 100000 then (some (([] : List Int), false, 4)) else (familycheckref01_Least.l0 k x1 (wrap64 (x8 * (wrap64 (x1 + 1)))) (wrap64 (x9 + 1)) x575000 x575001)) else (if 0 ≤ x575000 then (if (x575000 : Int).toNat ≤ 35184372088832 then (familycheckref01_Least.l1 k x1 x8 (List.replicate (x575000 : Int).toNat 0) 0 x575000 x575001) else (none)) else (none))
def familycheckref01_Least.l1 : Nat → Int → Int → List Int → Int → Int → List (S33) → Option (List Int × Bool × Int)
  | 0, _, _, _, _, _, _ => none
  | k + 1, x1, x8, x10, x11, x575000, x575001 => if x11 < x8 then (familycheckref01_Least.l2 k x1 x8 x10 x11 x11 (wrap64 (x575000 - 1)) x575000 x575001) else (some (([] : List Int), false, 0))
def familycheckref01_Least.l2 : Nat → Int → Int → List Int → Int → Int → Int → Int → List (S33) → Option (List Int × Bool × Int)
  | 0, _, _, _, _, _, _, _, _ => none
  | k + 1, x1, x8, x10, x11, x12, x13, x575000, x575001 => if x13 ≥ 0 then (if (wrap64 (x1 + 1)) = 0 then (none) else (if 0 ≤ x13 then (if x13 < (x10.length : Int) then (familycheckref01_Least.l2 k x1 x8 (x10.set (x13 : Int).toNat (Int.tmod x12 (wrap64 (x1 + 1)))) x11 (wrap64 (Int.tdiv x12 (wrap64 (x1 + 1)))) (wrap64 (x13 - 1)) x575000 x575001) else (none)) else (none))) else (familycheckref01_Least.l3 k x1 x8 x10 x11 true 0 x575000 x575001)
def familycheckref01_Least.l3 : Nat → Int → Int → List Int → Int → Bool → Int → Int → List (S33) → Option (List Int × Bool × Int)
  | 0, _, _, _, _, _, _, _, _ => none
  | k + 1, x1, x8, x10, x11, x14, x15, x575000, x575001 => if x15 < (x575001.length : Int) then (if x14 = true then (if 0 ≤ x15 then ((familycheckref01_left.f k ((rd_T33 x575001 x15).f0) ((rd_T33 x575001 x15).f1) x10).bind fun t582 => (familycheckref01_Least.l3 k x1 x8 x10 x11 (decide (t582 ≥ 0)) (wrap64 (x15 + 1)) x575000 x575001)) else (none)) else (familycheckref01_Least.l1 k x1 x8 x10 (wrap64 (x11 + 1)) x575000 x575001)) else (if x14 = true then (some (x10, true, 0)) else (familycheckref01_Least.l1 k x1 x8 x10 (wrap64 (x11 + 1)) x575000 x575001))
end
def familycheckref01_Least.f (k : Nat) (a0_0 : Int) (l0_1 : List (S33)) (a1 : Int) : Option (List Int × Bool × Int) := (familycheckref01_Validate.f k a0_0 l0_1).bind fun t575 => (if t575 = 0 then ((familycheckref01_within.f a1 0 1048576).bind fun t576 => (if t576 = true then (familycheckref01_Least.l0 k a1 1 0 a0_0 l0_1) else (some (([] : List Int), false, 1)))) else (some (([] : List Int), false, t575)))
set_option maxHeartbeats 8000000 in
set_option maxRecDepth 100000 in
theorem familycheckref01_Least.calls (k : Nat) (a0_0 : Int) (A0_1 : Option Addr) (c0_1 : Nat) (l0_1 : List (S33)) (a1 : Int) (r1 : List Int) (r2 : Bool) (r3 : Int) (w : World) (hr0_1 : Kd.C k33 w A0_1 l0_1.length l0_1) (hc0_1 : l0_1.length ≤ c0_1) (h : familycheckref01_Least.f k a0_0 l0_1 a1 = some (r1, r2, r3)) :
    Calls Tryd.prog 47 #[.agg #[.int .i64 a0_0, .slice A0_1 l0_1.length c0_1], .int .i64 a1] w fun e w' => ∃ v0_ : Value, e = .returned (.tuple #[v0_, .bool r2, .int .i64 r3]) ∧ Kd.R (Kd.int .i64) 3 w' w.heap.size (fun _ => True) v0_ r1 ∧ Below w.heap.size w w' := by
  have hu24 := Tryd.underlying24
  have hu33 := Tryd.underlying33
  have HR0_1 := Aside0.mk hr0_1
  have HC0_1 := Aside0.mk hc0_1
  clear hr0_1 hc0_1
  have HB := Aside0.mk (Below.refl w.heap.size w)
  have H : ((familycheckref01_Validate.f k a0_0 l0_1).bind fun t575 => (if t575 = 0 then ((familycheckref01_within.f a1 0 1048576).bind fun t576 => (if t576 = true then (familycheckref01_Least.l0 k a1 1 0 a0_0 l0_1) else (some (([] : List Int), false, 1)))) else (some (([] : List Int), false, t575)))) = some (r1, r2, r3) := h
  clear h
  replace H := Option.bind_eq_some_iff.mp H
  obtain ⟨t575, A30, H⟩ := H
  replace H : (if t575 = 0 then ((familycheckref01_within.f a1 0 1048576).bind fun t576 => (if t576 = true then (familycheckref01_Least.l0 k a1 1 0 a0_0 l0_1) else (some (([] : List Int), false, 1)))) else (some (([] : List Int), false, t575))) = some (r1, r2, r3) := H
  have A3 := Aside0.mk A30
  clear A30
  by_cases c4 : t575 = 0
  · rw [if_pos c4] at H
    have c4b0 : (t575 == 0) = true := beq_iff_eq.mpr c4
    have c4b1 : (t575 != 0) = false := bne_eq_false_iff_eq.mpr c4
    clear c4
    replace H := Option.bind_eq_some_iff.mp H
    obtain ⟨t576, A50, H⟩ := H
    replace H : (if t576 = true then (familycheckref01_Least.l0 k a1 1 0 a0_0 l0_1) else (some (([] : List Int), false, 1))) = some (r1, r2, r3) := H
    have A5 := Aside0.mk A50
    clear A50
    by_cases c6 : t576 = true
    · subst c6
      have H1 : (familycheckref01_Least.l0 k a1 1 0 a0_0 l0_1) = some (r1, r2, r3) := by rw [if_pos rfl] at H; exact H
      clear H
      have H := H1
      clear H1
      have H' := Aside0.mk H
      clear H
      go_enter Tryd.func47, Tryd.ntmps47
      go_wp2_with (first | ((with_reducible refine gate_dst (N := 2) rfl ?_); refine box_event ?hg (N := 2) ?hd (cs := #[.int .i64 a0_0, .slice A0_1 l0_1.length c0_1]) (t := 24) ?hr ?_; (case hd => rfl); (case hg => rfl); (case hr => first | (go_simp; done) | (go_simp; rfl)); intro gb574 hg w7 hbox hb; have n0_ := Aside0.mk (below_step (by repeat (first | (with_reducible first | exact HB.out | apply below_alloc | apply pw_below_drewN | apply below_drew1) | exact HB.out)) hb); have n1_ := Aside0.mk (hbox); have n2_ := Aside0.mk ((by rw [hg]; exact (below_size (by repeat (first | (with_reducible first | exact HB.out | apply below_alloc | apply pw_below_drewN | apply below_drew1) | exact HB.out))) : w.heap.size ≤ gb574)); have n3_ := Aside0.mk ((by rw [hg]; exact (below_size (by repeat (first | (with_reducible first | exact HB.out | apply below_alloc | apply pw_below_drewN | apply below_drew1) | exact HB.out))) : w.heap.size ≤ gb574)); clear HB; have HB := n0_; have BK574 := n1_; have GW574 := n2_; have GE574 := n3_; clear n0_ n1_ n2_ n3_; clear hb hbox hg; have hcz8_0 : w7.cell? ⟨gb574, 0, none⟩ = some (.int .i64 a0_0) := (blk_cell BK574.out 0).trans rfl; have hcz8_1 : w7.cell? ⟨gb574, 1, none⟩ = some (.slice A0_1 l0_1.length c0_1) := (blk_cell BK574.out 1).trans rfl; have hfz8_0 := blk_frozen BK574.out 0; have hfz8_1 := blk_frozen BK574.out 1) | ((with_reducible refine gate_callee (f := 19) rfl ?_); refine goesL_ (some 17) rfl rfl Tryd.func19 (by kernel_rfl) rfl #[.agg #[.int .i64 a0_0, .slice A0_1 l0_1.length c0_1]] rfl (by (try simp only [List.map_toArray, List.map_cons, List.map_nil]); first | done | rfl | (simp only [List.length_drop, List.length_take]; rfl)) ?_; (with_reducible refine (familycheckref01_Validate.calls k a0_0 _ _ l0_1 t575 _ ?side1 ?side2 A3.out).mono ?_); (case side1 => repeat (first | exact (Kd.C_below HR0_1.out HB.out) | (with_reducible refine Kd.C_alloc ?_ _) | (with_reducible refine Kd.C_drewN ?_ _) | (with_reducible refine Kd.C_drew ?_))); (case side2 => exact HC0_1.out); rintro e w9 ⟨rfl, hb⟩; refine ⟨_, rfl, ?_⟩; have n0_ := Aside0.mk (blk_below (g := gb574) (o := .cells #[.int .i64 a0_0, .slice A0_1 l0_1.length c0_1] 24 (0, 0)) (by (with_reducible repeat (first | refine blk_drewN ?_ _ | refine blk_drew ?_ | refine blk_alloc ?_ _)); exact BK574.out) hb); have n1_ := Aside0.mk (below_step (by repeat (first | (with_reducible first | exact HB.out | apply below_alloc | apply pw_below_drewN | apply below_drew1 | refine below_set ?_ GE574.out) | exact HB.out)) hb); clear BK574; clear HB; have BK574 := n0_; have HB := n1_; clear n0_ n1_; (try clear hb); (try clear hb2); (try clear hk); (try clear hi)) | ((with_reducible refine gate_callee (f := 50) rfl ?_); refine goesL_ (some 22) rfl rfl Tryd.func50 (by kernel_rfl) rfl #[.int .i64 a1, .int .i64 0, .int .i64 1048576] rfl (by (try simp only [List.map_toArray, List.map_cons, List.map_nil]); first | done | rfl | (simp only [List.length_drop, List.length_take]; rfl)) ?_; (with_reducible refine (familycheckref01_within.calls a1 0 1048576 true _ A5.out).mono ?_); rintro e w' ⟨rfl, ⟨nd, rfl⟩⟩; refine ⟨_, rfl, ?_⟩))
      go_loopg [8, 9] k (fun kq v8 v9 w' => ∃ (x8_1 : Int) (x9_1 : Int), v8 = .int .i64 x8_1 ∧ v9 = .int .i64 x9_1 ∧ Aside0 (familycheckref01_Least.l0 kq a1 x8_1 x9_1 a0_0 l0_1 = some (r1, r2, r3)) ∧ Aside0 (kq ≤ k) ∧ Aside0 (w'.heap[gb574]? = some (.cells #[.int .i64 a0_0, (.slice A0_1 l0_1.length c0_1)] 24 (0, 0))) ∧ Aside0 (Below w.heap.size w w'))
      case atStart => exact ⟨(1), (0), (by first | rfl | (simp; done) | (simp [*]; done)), (by first | rfl | (simp; done) | (simp [*]; done)), H', ⟨Nat.le_refl _⟩, ⟨by (with_reducible repeat (first | refine blk_drewN ?_ _ | refine blk_drew ?_ | refine blk_alloc ?_ _)); exact BK574.out⟩, ⟨by repeat (first | (with_reducible first | exact HB.out | apply below_alloc | apply pw_below_drewN | apply below_drew1 | refine below_set ?_ GE574.out) | exact HB.out)⟩⟩
      case round =>
        clear H'
        try clear c1
        try clear p2
        try clear c4
        try clear c4b0
        try clear c4b1
        try clear c5
        try clear c6
        try clear hcz8_0
        try clear hcz8_1
        try clear hfz8_0
        try clear hfz8_1
        obtain ⟨x8_1, x9_1, rfl, rfl, HA, HK1, BK574, HB⟩ := hrel
        cases gk with
        | zero => exact absurd HA.out (by simp [familycheckref01_Least.l0])
        | succ k1 =>
          have H := HA.out
          clear HA
          simp only [familycheckref01_Least.l0] at H
          by_cases c10 : x9_1 < a0_0
          · rw [if_pos c10] at H
            have c10b0 : decide (x9_1 < a0_0) = true := decide_eq_true c10
            clear c10
            by_cases c11 : (wrap64 (x8_1 * (wrap64 (a1 + 1)))) > 100000
            · rw [if_pos c11] at H
              have c11b0 : decide (100000 < (wrap64 (x8_1 * (wrap64 (a1 + 1))))) = true := decide_eq_true c11
              clear c11
              simp only [Option.some.injEq, Prod.mk.injEq] at H
              obtain ⟨rfl, rfl, rfl⟩ := H
              have hcz12_0 : wr.cell? ⟨gb574, 0, none⟩ = some (.int .i64 a0_0) := (blk_cell BK574.out 0).trans rfl
              have hcz12_1 : wr.cell? ⟨gb574, 1, none⟩ = some (.slice A0_1 l0_1.length c0_1) := (blk_cell BK574.out 1).trans rfl
              have hfz12_0 := blk_frozen BK574.out 0
              have hfz12_1 := blk_frozen BK574.out 1
              go_wp2
              go_ret3
              exact ⟨_, by first | rfl | (simp [errW_none, errW_some] <;> rfl) | (simp [*, errW_none, errW_some] <;> rfl), by first | exact Kd.R_nil _ _ _ _ _ | exact Kd.N_nil _ _ _ _ _ | exact Kd.V_nil _ _ _ _ _ | exact Kd.Q_nil _ _ _ _ _ | exact Kd.S_nil _ _ _ _ _, by repeat (first | (with_reducible first | exact HB.out | apply below_alloc | apply pw_below_drewN | apply below_drew1 | refine below_set ?_ GE574.out) | exact HB.out)⟩
            · rw [if_neg c11] at H
              have c11b0 : decide (100000 < (wrap64 (x8_1 * (wrap64 (a1 + 1))))) = false := decide_eq_false c11
              clear c11
              have H' := Aside0.mk H
              clear H
              have hcz13_0 : wr.cell? ⟨gb574, 0, none⟩ = some (.int .i64 a0_0) := (blk_cell BK574.out 0).trans rfl
              have hcz13_1 : wr.cell? ⟨gb574, 1, none⟩ = some (.slice A0_1 l0_1.length c0_1) := (blk_cell BK574.out 1).trans rfl
              have hfz13_0 := blk_frozen BK574.out 0
              have hfz13_1 := blk_frozen BK574.out 1
              go_wp2
              go_roundg k1
              case measure => have := HK1.out; omega
              case rel => exact ⟨(wrap64 (x8_1 * (wrap64 (a1 + 1)))), (wrap64 (x9_1 + 1)), (by first | rfl | (simp; done) | (simp [*]; done)), (by first | rfl | (simp; done) | (simp [*]; done)), H', ⟨by have := HK1.out; omega⟩, ⟨by (with_reducible repeat (first | refine blk_drewN ?_ _ | refine blk_drew ?_ | refine blk_alloc ?_ _)); exact BK574.out⟩, ⟨by repeat (first | (with_reducible first | exact HB.out | apply below_alloc | apply pw_below_drewN | apply below_drew1 | refine below_set ?_ GE574.out) | exact HB.out)⟩⟩
          · rw [if_neg c10] at H
            have c10b0 : decide (x9_1 < a0_0) = false := decide_eq_false c10
            clear c10
            by_cases c14 : 0 ≤ a0_0
            · rw [if_pos c14] at H
              have c14b0 := eq_true c14
              have c14b1 : decide (0 ≤ a0_0) = true := decide_eq_true c14
              clear c14
              by_cases c15 : (a0_0 : Int).toNat ≤ 35184372088832
              · rw [if_pos c15] at H
                have c15b0 := eq_true c15
                have c15b1 : decide ((a0_0 : Int).toNat ≤ 35184372088832) = true := decide_eq_true c15
                clear c15
                obtain ⟨y577, hy577⟩ : ∃ y_ : List Int, y_ = (List.replicate (a0_0 : Int).toNat 0) := ⟨_, rfl⟩
                replace H : (familycheckref01_Least.l1 k1 a1 x8_1 y577 0 a0_0 l0_1) = some (r1, r2, r3) := by first | (rw [hy577]; with_reducible exact H) | (have H2_ := (Option.bind_some _ _).symm.trans H; rw [hy577]; with_reducible exact H2_) | (have H2_ := (Option.bind_some _ _).symm.trans H; with_reducible exact H2_) | with_reducible exact H | (rw [hy577]; exact H) | exact H
                have Ny577 := Aside0.mk hy577
                clear hy577
                have H' := Aside0.mk H
                clear H
                have hcz16_0 : wr.cell? ⟨gb574, 0, none⟩ = some (.int .i64 a0_0) := (blk_cell BK574.out 0).trans rfl
                have hcz16_1 : wr.cell? ⟨gb574, 1, none⟩ = some (.slice A0_1 l0_1.length c0_1) := (blk_cell BK574.out 1).trans rfl
                have hfz16_0 := blk_frozen BK574.out 0
                have hfz16_1 := blk_frozen BK574.out 1
                go_wp2_with (first | ((with_reducible refine gate_dst (N := 38) rfl ?_); refine Kd.R_make (Kd.int .i64) _ 3 rfl (N := 38) rfl 31 _ _ rfl a0_0 rfl rfl Tryd.underlying31 (.int .i64 0) 8 info3 rfl (by decide) (by omega) 0 (ok := fun _ => True) (okp := fun _ => True) rfl (fun _ hk => hk) trivial (of_decide_eq_true (by first | (with_reducible assumption) | assumption)) (Nat.le_trans (Nat.mul_le_mul_right _ (of_decide_eq_true (by first | (with_reducible assumption) | assumption) : a0_0.toNat ≤ 35184372088832)) (by omega)) (Below.refl _ _) (Nat.le_refl _) ?_; intro v578 w17 ho18 hb hg_ hnew_; clear hg_ hnew_; (first | rw [← Ny577.out] at ho18 | (simp only [Int.reduceToNat] at ho18; rw [← Ny577.out] at ho18)); have n0_ := Aside0.mk (Kd.R_lower ho18 (below_size (by repeat (first | (with_reducible first | exact HB.out | apply below_alloc | apply pw_below_drewN | apply below_drew1 | refine below_set ?_ GE574.out) | exact HB.out)))); have n1_ := Aside0.mk (blk_below (g := gb574) (o := .cells #[.int .i64 a0_0, .slice A0_1 l0_1.length c0_1] 24 (0, 0)) (by (with_reducible repeat (first | refine blk_drewN ?_ _ | refine blk_drew ?_ | refine blk_alloc ?_ _)); exact BK574.out) hb); have n2_ := Aside0.mk (below_step (by repeat (first | (with_reducible first | exact HB.out | apply below_alloc | apply pw_below_drewN | apply below_drew1 | refine below_set ?_ GE574.out) | exact HB.out)) hb); clear BK574; clear HB; have HO579 := n0_; have BK574 := n1_; have HB := n2_; clear n0_ n1_ n2_; clear hb ho18))
                go_loopg [11] k1 (fun kq v11 w' => ∃ (x10_2 : List Int) (x11_2 : Int), v11 = .int .i64 x11_2 ∧ Aside0 (familycheckref01_Least.l1 kq a1 x8_1 x10_2 x11_2 a0_0 l0_1 = some (r1, r2, r3)) ∧ Aside0 (kq ≤ k1) ∧ Aside0 (Kd.R (Kd.int .i64) 3 w' w.heap.size (fun _ => True) v578 x10_2) ∧ Aside0 (w'.heap[gb574]? = some (.cells #[.int .i64 a0_0, (.slice A0_1 l0_1.length c0_1)] 24 (0, 0))) ∧ Aside0 (Below w.heap.size w w'))
                case atStart => exact ⟨(y577), (0), (by first | rfl | (simp; done) | (simp [*]; done)), H', ⟨Nat.le_refl _⟩, ⟨by (with_reducible repeat (first | apply Kd.R_alloc | apply Kd.R_drewN | apply Kd.R_drew)); exact HO579.out⟩, ⟨by (with_reducible repeat (first | refine blk_drewN ?_ _ | refine blk_drew ?_ | refine blk_alloc ?_ _)); exact BK574.out⟩, ⟨by repeat (first | (with_reducible first | exact HB.out | apply below_alloc | apply pw_below_drewN | apply below_drew1 | refine below_set ?_ GE574.out) | exact HB.out)⟩⟩
                case round =>
                  clear H'
                  try clear c1
                  try clear p2
                  try clear c4
                  try clear c4b0
                  try clear c4b1
                  try clear c5
                  try clear c6
                  try clear p6
                  try clear c10
                  try clear c10b0
                  try clear c11
                  try clear c11b0
                  try clear c14
                  try clear c14b0
                  try clear c14b1
                  try clear c15
                  try clear c15b0
                  try clear c15b1
                  try clear hcz12_0
                  try clear hcz12_1
                  try clear hcz13_0
                  try clear hcz13_1
                  try clear hcz16_0
                  try clear hcz16_1
                  try clear hcz8_0
                  try clear hcz8_1
                  try clear hfz12_0
                  try clear hfz12_1
                  try clear hfz13_0
                  try clear hfz13_1
                  try clear hfz16_0
                  try clear hfz16_1
                  try clear hfz8_0
                  try clear hfz8_1
                  try clear p2
                  obtain ⟨x10_2, x11_2, rfl, HA, HK2, HO_10, BK574, HB⟩ := hrel
                  cases gk with
                  | zero => exact absurd HA.out (by simp [familycheckref01_Least.l1])
                  | succ k2 =>
                    have H := HA.out
                    clear HA
                    simp only [familycheckref01_Least.l1] at H
                    by_cases c19 : x11_2 < x8_1
                    · rw [if_pos c19] at H
                      have c19b0 : decide (x11_2 < x8_1) = true := decide_eq_true c19
                      clear c19
                      have H' := Aside0.mk H
                      clear H
                      have hcz20_0 : wr.cell? ⟨gb574, 0, none⟩ = some (.int .i64 a0_0) := (blk_cell BK574.out 0).trans rfl
                      have hcz20_1 : wr.cell? ⟨gb574, 1, none⟩ = some (.slice A0_1 l0_1.length c0_1) := (blk_cell BK574.out 1).trans rfl
                      have hfz20_0 := blk_frozen BK574.out 0
                      have hfz20_1 := blk_frozen BK574.out 1
                      go_wp2
                      go_loopg [12, 13] k2 (fun kq v12 v13 w' => ∃ (x10_3 : List Int) (x12_3 : Int) (x13_3 : Int), v12 = .int .i64 x12_3 ∧ v13 = .int .i64 x13_3 ∧ Aside0 (familycheckref01_Least.l2 kq a1 x8_1 x10_3 x11_2 x12_3 x13_3 a0_0 l0_1 = some (r1, r2, r3)) ∧ Aside0 (kq ≤ k2) ∧ Aside0 (Kd.R (Kd.int .i64) 3 w' w.heap.size (fun _ => True) v578 x10_3) ∧ Aside0 (w'.heap[gb574]? = some (.cells #[.int .i64 a0_0, (.slice A0_1 l0_1.length c0_1)] 24 (0, 0))) ∧ Aside0 (Below w.heap.size w w'))
                      case atStart => exact ⟨(x10_2), (x11_2), (wrap64 (a0_0 - 1)), (by first | rfl | (simp; done) | (simp [*]; done)), (by first | rfl | (simp; done) | (simp [*]; done)), H', ⟨Nat.le_refl _⟩, ⟨by (with_reducible repeat (first | apply Kd.R_alloc | apply Kd.R_drewN | apply Kd.R_drew)); exact HO_10.out⟩, ⟨by (with_reducible repeat (first | refine blk_drewN ?_ _ | refine blk_drew ?_ | refine blk_alloc ?_ _)); exact BK574.out⟩, ⟨by repeat (first | (with_reducible first | exact HB.out | apply below_alloc | apply pw_below_drewN | apply below_drew1 | refine below_set ?_ GE574.out) | exact HB.out)⟩⟩
                      case round =>
                        clear H'
                        try clear c1
                        try clear p2
                        try clear c4
                        try clear c4b0
                        try clear c4b1
                        try clear c5
                        try clear c6
                        try clear p6
                        try clear c10
                        try clear c10b0
                        try clear c11
                        try clear c11b0
                        try clear c14
                        try clear c14b0
                        try clear c14b1
                        try clear c15
                        try clear c15b0
                        try clear c15b1
                        try clear c19
                        try clear c19b0
                        try clear hcz12_0
                        try clear hcz12_1
                        try clear hcz13_0
                        try clear hcz13_1
                        try clear hcz16_0
                        try clear hcz16_1
                        try clear hcz20_0
                        try clear hcz20_1
                        try clear hcz8_0
                        try clear hcz8_1
                        try clear hfz12_0
                        try clear hfz12_1
                        try clear hfz13_0
                        try clear hfz13_1
                        try clear hfz16_0
                        try clear hfz16_1
                        try clear hfz20_0
                        try clear hfz20_1
                        try clear hfz8_0
                        try clear hfz8_1
                        try clear p2
                        try clear p6
                        obtain ⟨x10_3, x12_3, x13_3, rfl, rfl, HA, HK3, HO_10, BK574, HB⟩ := hrel
                        cases gk with
                        | zero => exact absurd HA.out (by simp [familycheckref01_Least.l2])
                        | succ k3 =>
                          have H := HA.out
                          clear HA
                          simp only [familycheckref01_Least.l2] at H
                          by_cases c21 : x13_3 ≥ 0
                          · rw [if_pos c21] at H
                            have c21b0 : decide (0 ≤ x13_3) = true := decide_eq_true c21
                            clear c21
                            by_cases c22 : (wrap64 (a1 + 1)) = 0
                            · rw [if_pos c22] at H
                              exact absurd H (by simp)
                            · rw [if_neg c22] at H
                              have c22b0 : ((wrap64 (a1 + 1)) == 0) = false := beq_eq_false_iff_ne.mpr c22
                              have c22b1 : ((wrap64 (a1 + 1)) != 0) = true := bne_iff_ne.mpr c22
                              by_cases c23 : 0 ≤ x13_3
                              · rw [if_pos c23] at H
                                have c23b0 : decide (0 ≤ x13_3) = true := decide_eq_true c23
                                clear c23
                                by_cases c24 : x13_3 < (x10_3.length : Int)
                                · rw [if_pos c24] at H
                                  have c24b0 : decide (x13_3 < (x10_3.length : Int)) = true := decide_eq_true c24
                                  clear c24
                                  obtain ⟨y580, hy580⟩ : ∃ y_ : List Int, y_ = (x10_3.set (x13_3 : Int).toNat (Int.tmod x12_3 (wrap64 (a1 + 1)))) := ⟨_, rfl⟩
                                  replace H : (familycheckref01_Least.l2 k3 a1 x8_1 y580 x11_2 (wrap64 (Int.tdiv x12_3 (wrap64 (a1 + 1)))) (wrap64 (x13_3 - 1)) a0_0 l0_1) = some (r1, r2, r3) := by first | (rw [hy580]; with_reducible exact H) | (have H2_ := (Option.bind_some _ _).symm.trans H; rw [hy580]; with_reducible exact H2_) | (have H2_ := (Option.bind_some _ _).symm.trans H; with_reducible exact H2_) | with_reducible exact H | (rw [hy580]; exact H) | exact H
                                  have Ny580 := Aside0.mk hy580
                                  clear hy580
                                  have H' := Aside0.mk H
                                  clear H
                                  have p25 : 0 ≤ (x13_3 : Int) := of_decide_eq_true (by first | (with_reducible assumption) | assumption)
                                  have q25 : (x13_3 : Int) < ((x10_3.length : Int) : Int) := of_decide_eq_true (by first | (with_reducible assumption) | assumption)
                                  obtain ⟨go25, co25, eo25, gb25, gl25, cl25, HG25⟩ := Kd.R_form HO_10.out (by omega)
                                  (first | cases eo25 | (injection eo25 with ea_ en_ ec_; (first | subst ea_ | (injection ea_ with ea_; subst ea_)); subst ec_; clear en_))
                                  have GB25 := Aside0.mk gb25
                                  have GG25 := Aside0.mk HG25
                                  clear gb25 gl25 HG25
                                  obtain ⟨hx25_0, hf25_0⟩ := Kd.R_celln 0 HO_10.out (x13_3 : Int) p25 q25
                                  replace p25 := eq_true p25
                                  replace q25 := eq_true q25
                                  have HP26 := Kd.R_putg HO_10.out (x13_3 : Int) (Int.tmod x12_3 (wrap64 (a1 + 1)))
                                  go_wp2_with (first | ((with_reducible refine gate_store (t := 3) (p := 58) rfl ?_); refine store_event (t := 3) (p := 58) (v := ?vo_w27) (w1 := (wr.setCell ⟨go25, (x13_3 : Int).toNat, none⟩ (.int .i64 (Int.tmod x12_3 (wrap64 (a1 + 1)))))) ?hg ?ho ?hn ?hr ?_; (case ho => rfl); (case hg => rfl); (case hn => rfl); (case hr => first | (go_simp; done) | (go_simp; rfl)); intro w27 hw; have hg : wr.grownBy w27 (some go25) := (by rw [hw]; exact HP26.2); have hp_ : Kd.R (Kd.int .i64) 3 w27 w.heap.size (fun _ => True) (.slice (some ⟨go25, 0, none⟩) x10_3.length co25) y580 := (by rw [hw, Ny580.out]; exact HP26.1); clear HP26; have n0_ := Aside0.mk (hp_); have n1_ := Aside0.mk (blk_grown (g := gb574) (o := .cells #[.int .i64 a0_0, .slice A0_1 l0_1.length c0_1] 24 (0, 0)) (by (with_reducible repeat (first | refine blk_drewN ?_ _ | refine blk_drew ?_ | refine blk_alloc ?_ _)); exact BK574.out) hg (Kd.R_ne HO_10.out BK574.out (by decide))); have n2_ := Aside0.mk ((by rw [hw]; exact below_set (HB.out) GB25.out : Below w.heap.size w w27)); clear HO_10; clear BK574; clear HB; have HO_10 := n0_; have BK574 := n1_; have HB := n2_; clear n0_ n1_ n2_; clear hg hw hp_))
                                  go_roundg k3
                                  case measure => have := HK1.out; have := HK2.out; have := HK3.out; omega
                                  case rel => exact ⟨(y580), (wrap64 (Int.tdiv x12_3 (wrap64 (a1 + 1)))), (wrap64 (x13_3 - 1)), (by first | rfl | (simp; done) | (simp [*]; done)), (by first | rfl | (simp; done) | (simp [*]; done)), H', ⟨by have := HK1.out; have := HK2.out; have := HK3.out; omega⟩, ⟨by (with_reducible repeat (first | apply Kd.R_alloc | apply Kd.R_drewN | apply Kd.R_drew)); exact HO_10.out⟩, ⟨by (with_reducible repeat (first | refine blk_drewN ?_ _ | refine blk_drew ?_ | refine blk_alloc ?_ _)); exact BK574.out⟩, ⟨by repeat (first | (with_reducible first | exact HB.out | apply below_alloc | apply pw_below_drewN | apply below_drew1 | refine below_set ?_ GE574.out) | exact HB.out)⟩⟩
                                · rw [if_neg c24] at H
                                  exact absurd H (by simp)
                              · rw [if_neg c23] at H
                                exact absurd H (by simp)
                          · rw [if_neg c21] at H
                            have c21b0 : decide (0 ≤ x13_3) = false := decide_eq_false c21
                            clear c21
                            have H' := Aside0.mk H
                            clear H
                            go_wp2
                            go_loopg [14, 15] k3 (fun kq v14 v15 w' => ∃ (x14_4 : Bool) (x15_4 : Int), v14 = .bool x14_4 ∧ v15 = .int .i64 x15_4 ∧ Aside0 (familycheckref01_Least.l3 kq a1 x8_1 x10_3 x11_2 x14_4 x15_4 a0_0 l0_1 = some (r1, r2, r3)) ∧ Aside0 (kq ≤ k3) ∧ Aside0 (Kd.R (Kd.int .i64) 3 w' w.heap.size (fun _ => True) v578 x10_3) ∧ Aside0 (w'.heap[gb574]? = some (.cells #[.int .i64 a0_0, (.slice A0_1 l0_1.length c0_1)] 24 (0, 0))) ∧ Aside0 (Below w.heap.size w w'))
                            case atStart => exact ⟨(true), (0), (by first | rfl | (simp; done) | (simp [*]; done)), (by first | rfl | (simp; done) | (simp [*]; done)), H', ⟨Nat.le_refl _⟩, ⟨by (with_reducible repeat (first | apply Kd.R_alloc | apply Kd.R_drewN | apply Kd.R_drew)); exact HO_10.out⟩, ⟨by (with_reducible repeat (first | refine blk_drewN ?_ _ | refine blk_drew ?_ | refine blk_alloc ?_ _)); exact BK574.out⟩, ⟨by repeat (first | (with_reducible first | exact HB.out | apply below_alloc | apply pw_below_drewN | apply below_drew1 | refine below_set ?_ GE574.out) | exact HB.out)⟩⟩
                            case round =>
                              clear H'
                              try clear c1
                              try clear c2
                              try clear p2
                              try clear q2
                              try clear hx2
                              try clear hf2
                              try clear c4
                              try clear c4b0
                              try clear c4b1
                              try clear c5
                              try clear c6
                              try clear p6
                              try clear c10
                              try clear c10b0
                              try clear c11
                              try clear c11b0
                              try clear c14
                              try clear c14b0
                              try clear c14b1
                              try clear c15
                              try clear c15b0
                              try clear c15b1
                              try clear c19
                              try clear c19b0
                              try clear c21
                              try clear c21b0
                              try clear c22
                              try clear c22b0
                              try clear c22b1
                              try clear c23
                              try clear c23b0
                              try clear c24
                              try clear c24b0
                              try clear p25
                              try clear q25
                              try clear hx25
                              try clear hf25
                              try clear hcz12_0
                              try clear hcz12_1
                              try clear hcz13_0
                              try clear hcz13_1
                              try clear hcz16_0
                              try clear hcz16_1
                              try clear hcz20_0
                              try clear hcz20_1
                              try clear hcz8_0
                              try clear hcz8_1
                              try clear hfz12_0
                              try clear hfz12_1
                              try clear hfz13_0
                              try clear hfz13_1
                              try clear hfz16_0
                              try clear hfz16_1
                              try clear hfz20_0
                              try clear hfz20_1
                              try clear hfz8_0
                              try clear hfz8_1
                              try clear hx25_0
                              try clear p2
                              try clear p25
                              try clear p6
                              try clear q25
                              obtain ⟨x14_4, x15_4, rfl, rfl, HA, HK4, HO_10, BK574, HB⟩ := hrel
                              cases gk with
                              | zero => exact absurd HA.out (by simp [familycheckref01_Least.l3])
                              | succ k4 =>
                                have H := HA.out
                                clear HA
                                simp only [familycheckref01_Least.l3] at H
                                by_cases c28 : x15_4 < (l0_1.length : Int)
                                · rw [if_pos c28] at H
                                  have c28b0 : decide (x15_4 < (l0_1.length : Int)) = true := decide_eq_true c28
                                  clear c28
                                  by_cases c29 : x14_4 = true
                                  · subst c29
                                    have H1 : (if 0 ≤ x15_4 then ((familycheckref01_left.f k4 ((rd_T33 l0_1 x15_4).f0) ((rd_T33 l0_1 x15_4).f1) x10_3).bind fun t582 => (familycheckref01_Least.l3 k4 a1 x8_1 x10_3 x11_2 (decide (t582 ≥ 0)) (wrap64 (x15_4 + 1)) a0_0 l0_1)) else (none)) = some (r1, r2, r3) := by rw [if_pos rfl] at H; exact H
                                    clear H
                                    have H := H1
                                    clear H1
                                    by_cases c30 : 0 ≤ x15_4
                                    · rw [if_pos c30] at H
                                      have c30b0 : decide (0 ≤ x15_4) = true := decide_eq_true c30
                                      clear c30
                                      replace H := Option.bind_eq_some_iff.mp H
                                      obtain ⟨t582, A310, H⟩ := H
                                      replace H : (familycheckref01_Least.l3 k4 a1 x8_1 x10_3 x11_2 (decide (t582 ≥ 0)) (wrap64 (x15_4 + 1)) a0_0 l0_1) = some (r1, r2, r3) := H
                                      have A31 := Aside0.mk A310
                                      clear A310
                                      have H' := Aside0.mk H
                                      clear H
                                      have hcz32_0 : wr.cell? ⟨gb574, 0, none⟩ = some (.int .i64 a0_0) := (blk_cell BK574.out 0).trans rfl
                                      have hcz32_1 : wr.cell? ⟨gb574, 1, none⟩ = some (.slice A0_1 l0_1.length c0_1) := (blk_cell BK574.out 1).trans rfl
                                      have hfz32_0 := blk_frozen BK574.out 0
                                      have hfz32_1 := blk_frozen BK574.out 1
                                      have p581 : 0 ≤ (x15_4 : Int) := of_decide_eq_true (by first | (with_reducible assumption) | assumption)
                                      have q581 : x15_4 < (l0_1.length : Int) := of_decide_eq_true (by first | (with_reducible assumption) | assumption)
                                      obtain ⟨ad581, A581_0, c581_0, e581, hx581_0, hx581_1, hl581_0, hi581_0⟩ := at_T33 HR0_1.out x15_4 p581 q581
                                      cases e581
                                      replace hx581_0 := (HB.out.cell (World.block_lt_of_cell? w _ hx581_0)).trans hx581_0
                                      replace hx581_1 := (HB.out.cell (World.block_lt_of_cell? w _ hx581_1)).trans hx581_1
                                      have HR581_0 := Aside0.mk hi581_0
                                      have HC581_0 := Aside0.mk hl581_0
                                      clear hi581_0 hl581_0
                                      replace p581 := eq_true p581
                                      replace q581 := eq_true q581
                                      obtain ⟨Ao33, co33, eo33⟩ := Kd.R_slice HO_10.out
                                      subst eo33
                                      go_wp2_with (first | ((with_reducible refine gate_callee (f := 54) rfl ?_); refine goesL_ (some 79) rfl rfl Tryd.func54 (by kernel_rfl) rfl #[.agg #[.slice A581_0 ((rd_T33 l0_1 x15_4).f0).length c581_0, .int .i64 ((rd_T33 l0_1 x15_4).f1)], .slice Ao33 x10_3.length co33] rfl (by (try simp only [List.map_toArray, List.map_cons, List.map_nil]); first | done | rfl | (simp only [List.length_drop, List.length_take]; rfl)) ?_; (with_reducible refine (familycheckref01_left.calls k4 _ _ ((rd_T33 l0_1 x15_4).f0) ((rd_T33 l0_1 x15_4).f1) _ _ x10_3 t582 _ ?side1 ?side2 ?side3 ?side4 A31.out).mono ?_); (case side1 => repeat (first | exact (Kd.C_below HR581_0.out HB.out) | (with_reducible refine Kd.C_alloc ?_ _) | (with_reducible refine Kd.C_drewN ?_ _) | (with_reducible refine Kd.C_drew ?_))); (case side2 => exact HC581_0.out); (case side3 => repeat (first | exact (Kd.R_reads' HO_10.out).2.2 | (with_reducible refine Kd.C_alloc ?_ _) | (with_reducible refine Kd.C_drewN ?_ _) | (with_reducible refine Kd.C_drew ?_))); (case side4 => exact (Kd.R_reads' HO_10.out).2.1); rintro e w34 ⟨rfl, hb⟩; refine ⟨_, rfl, ?_⟩; have n0_ := Aside0.mk (Kd.R_below (by (with_reducible repeat (first | apply Kd.R_alloc | apply Kd.R_drewN | apply Kd.R_drew)); exact HO_10.out) hb); have n1_ := Aside0.mk (blk_below (g := gb574) (o := .cells #[.int .i64 a0_0, .slice (some ad581) l0_1.length c0_1] 24 (0, 0)) (by (with_reducible repeat (first | refine blk_drewN ?_ _ | refine blk_drew ?_ | refine blk_alloc ?_ _)); exact BK574.out) hb); have n2_ := Aside0.mk (below_step (by repeat (first | (with_reducible first | exact HB.out | apply below_alloc | apply pw_below_drewN | apply below_drew1 | refine below_set ?_ GE574.out) | exact HB.out)) hb); clear HO_10; clear BK574; clear HB; have HO_10 := n0_; have BK574 := n1_; have HB := n2_; clear n0_ n1_ n2_; (try clear hb); (try clear hb2); (try clear hk); (try clear hi)))
                                      go_roundg k4
                                      case measure => have := HK1.out; have := HK2.out; have := HK3.out; have := HK4.out; omega
                                      case rel => exact ⟨(decide (t582 ≥ 0)), (wrap64 (x15_4 + 1)), (by first | rfl | (simp; done) | (simp [*]; done)), (by first | rfl | (simp; done) | (simp [*]; done)), H', ⟨by have := HK1.out; have := HK2.out; have := HK3.out; have := HK4.out; omega⟩, ⟨by (with_reducible repeat (first | apply Kd.R_alloc | apply Kd.R_drewN | apply Kd.R_drew)); exact HO_10.out⟩, ⟨by (with_reducible repeat (first | refine blk_drewN ?_ _ | refine blk_drew ?_ | refine blk_alloc ?_ _)); exact BK574.out⟩, ⟨by repeat (first | (with_reducible first | exact HB.out | apply below_alloc | apply pw_below_drewN | apply below_drew1 | refine below_set ?_ GE574.out) | exact HB.out)⟩⟩
                                    · rw [if_neg c30] at H
                                      exact absurd H (by simp)
                                  · replace c29 := Bool.eq_false_iff.mpr c29
                                    subst c29
                                    have H1 : (familycheckref01_Least.l1 k4 a1 x8_1 x10_3 (wrap64 (x11_2 + 1)) a0_0 l0_1) = some (r1, r2, r3) := by rw [if_neg (show ¬ (false = true) by decide)] at H; exact H
                                    clear H
                                    have H := H1
                                    clear H1
                                    have H' := Aside0.mk H
                                    clear H
                                    have hcz35_0 : wr.cell? ⟨gb574, 0, none⟩ = some (.int .i64 a0_0) := (blk_cell BK574.out 0).trans rfl
                                    have hcz35_1 : wr.cell? ⟨gb574, 1, none⟩ = some (.slice A0_1 l0_1.length c0_1) := (blk_cell BK574.out 1).trans rfl
                                    have hfz35_0 := blk_frozen BK574.out 0
                                    have hfz35_1 := blk_frozen BK574.out 1
                                    go_wp2
                                    go_roundg k4
                                    case measure => have := HK1.out; have := HK2.out; have := HK3.out; have := HK4.out; omega
                                    case rel => exact ⟨(x10_3), (wrap64 (x11_2 + 1)), (by first | rfl | (simp; done) | (simp [*]; done)), H', ⟨by have := HK1.out; have := HK2.out; have := HK3.out; have := HK4.out; omega⟩, ⟨by (with_reducible repeat (first | apply Kd.R_alloc | apply Kd.R_drewN | apply Kd.R_drew)); exact HO_10.out⟩, ⟨by (with_reducible repeat (first | refine blk_drewN ?_ _ | refine blk_drew ?_ | refine blk_alloc ?_ _)); exact BK574.out⟩, ⟨by repeat (first | (with_reducible first | exact HB.out | apply below_alloc | apply pw_below_drewN | apply below_drew1 | refine below_set ?_ GE574.out) | exact HB.out)⟩⟩
                                · rw [if_neg c28] at H
                                  have c28b0 : decide (x15_4 < (l0_1.length : Int)) = false := decide_eq_false c28
                                  clear c28
                                  by_cases c36 : x14_4 = true
                                  · subst c36
                                    have H1 : (some (x10_3, true, 0)) = some (r1, r2, r3) := by rw [if_pos rfl] at H; exact H
                                    clear H
                                    have H := H1
                                    clear H1
                                    simp only [Option.some.injEq, Prod.mk.injEq] at H
                                    obtain ⟨rfl, rfl, rfl⟩ := H
                                    have hcz37_0 : wr.cell? ⟨gb574, 0, none⟩ = some (.int .i64 a0_0) := (blk_cell BK574.out 0).trans rfl
                                    have hcz37_1 : wr.cell? ⟨gb574, 1, none⟩ = some (.slice A0_1 l0_1.length c0_1) := (blk_cell BK574.out 1).trans rfl
                                    have hfz37_0 := blk_frozen BK574.out 0
                                    have hfz37_1 := blk_frozen BK574.out 1
                                    go_wp2
                                    go_ret3
                                    exact ⟨_, by first | rfl | (simp [errW_none, errW_some] <;> rfl) | (simp [*, errW_none, errW_some] <;> rfl), by (with_reducible repeat (first | apply Kd.R_alloc | apply Kd.R_drewN | apply Kd.R_drew)); exact HO_10.out, by repeat (first | (with_reducible first | exact HB.out | apply below_alloc | apply pw_below_drewN | apply below_drew1 | refine below_set ?_ GE574.out) | exact HB.out)⟩
                                  · replace c36 := Bool.eq_false_iff.mpr c36
                                    subst c36
                                    have H1 : (familycheckref01_Least.l1 k4 a1 x8_1 x10_3 (wrap64 (x11_2 + 1)) a0_0 l0_1) = some (r1, r2, r3) := by rw [if_neg (show ¬ (false = true) by decide)] at H; exact H
                                    clear H
                                    have H := H1
                                    clear H1
                                    have H' := Aside0.mk H
                                    clear H
                                    have hcz38_0 : wr.cell? ⟨gb574, 0, none⟩ = some (.int .i64 a0_0) := (blk_cell BK574.out 0).trans rfl
                                    have hcz38_1 : wr.cell? ⟨gb574, 1, none⟩ = some (.slice A0_1 l0_1.length c0_1) := (blk_cell BK574.out 1).trans rfl
                                    have hfz38_0 := blk_frozen BK574.out 0
                                    have hfz38_1 := blk_frozen BK574.out 1
                                    go_wp2
                                    go_roundg k4
                                    case measure => have := HK1.out; have := HK2.out; have := HK3.out; have := HK4.out; omega
                                    case rel => exact ⟨(x10_3), (wrap64 (x11_2 + 1)), (by first | rfl | (simp; done) | (simp [*]; done)), H', ⟨by have := HK1.out; have := HK2.out; have := HK3.out; have := HK4.out; omega⟩, ⟨by (with_reducible repeat (first | apply Kd.R_alloc | apply Kd.R_drewN | apply Kd.R_drew)); exact HO_10.out⟩, ⟨by (with_reducible repeat (first | refine blk_drewN ?_ _ | refine blk_drew ?_ | refine blk_alloc ?_ _)); exact BK574.out⟩, ⟨by repeat (first | (with_reducible first | exact HB.out | apply below_alloc | apply pw_below_drewN | apply below_drew1 | refine below_set ?_ GE574.out) | exact HB.out)⟩⟩
                    · rw [if_neg c19] at H
                      have c19b0 : decide (x11_2 < x8_1) = false := decide_eq_false c19
                      clear c19
                      simp only [Option.some.injEq, Prod.mk.injEq] at H
                      obtain ⟨rfl, rfl, rfl⟩ := H
                      go_wp2
                      go_ret3
                      exact ⟨_, by first | rfl | (simp [errW_none, errW_some] <;> rfl) | (simp [*, errW_none, errW_some] <;> rfl), by first | exact Kd.R_nil _ _ _ _ _ | exact Kd.N_nil _ _ _ _ _ | exact Kd.V_nil _ _ _ _ _ | exact Kd.Q_nil _ _ _ _ _ | exact Kd.S_nil _ _ _ _ _, by repeat (first | (with_reducible first | exact HB.out | apply below_alloc | apply pw_below_drewN | apply below_drew1 | refine below_set ?_ GE574.out) | exact HB.out)⟩
              · rw [if_neg c15] at H
                exact absurd H (by simp)
            · rw [if_neg c14] at H
              exact absurd H (by simp)
    · replace c6 := Bool.eq_false_iff.mpr c6
      subst c6
      have H1 : (some (([] : List Int), false, 1)) = some (r1, r2, r3) := by rw [if_neg (show ¬ (false = true) by decide)] at H; exact H
      clear H
      have H := H1
      clear H1
      simp only [Option.some.injEq, Prod.mk.injEq] at H
      obtain ⟨rfl, rfl, rfl⟩ := H
      go_enter Tryd.func47, Tryd.ntmps47
      go_wp2_with (first | ((with_reducible refine gate_dst (N := 2) rfl ?_); refine box_event ?hg (N := 2) ?hd (cs := #[.int .i64 a0_0, .slice A0_1 l0_1.length c0_1]) (t := 24) ?hr ?_; (case hd => rfl); (case hg => rfl); (case hr => first | (go_simp; done) | (go_simp; rfl)); intro gb574 hg w39 hbox hb; have n0_ := Aside0.mk (below_step (by repeat (first | (with_reducible first | exact HB.out | apply below_alloc | apply pw_below_drewN | apply below_drew1) | exact HB.out)) hb); have n1_ := Aside0.mk (hbox); have n2_ := Aside0.mk ((by rw [hg]; exact (below_size (by repeat (first | (with_reducible first | exact HB.out | apply below_alloc | apply pw_below_drewN | apply below_drew1) | exact HB.out))) : w.heap.size ≤ gb574)); have n3_ := Aside0.mk ((by rw [hg]; exact (below_size (by repeat (first | (with_reducible first | exact HB.out | apply below_alloc | apply pw_below_drewN | apply below_drew1) | exact HB.out))) : w.heap.size ≤ gb574)); clear HB; have HB := n0_; have BK574 := n1_; have GW574 := n2_; have GE574 := n3_; clear n0_ n1_ n2_ n3_; clear hb hbox hg; have hcz40_0 : w39.cell? ⟨gb574, 0, none⟩ = some (.int .i64 a0_0) := (blk_cell BK574.out 0).trans rfl; have hcz40_1 : w39.cell? ⟨gb574, 1, none⟩ = some (.slice A0_1 l0_1.length c0_1) := (blk_cell BK574.out 1).trans rfl; have hfz40_0 := blk_frozen BK574.out 0; have hfz40_1 := blk_frozen BK574.out 1) | ((with_reducible refine gate_callee (f := 19) rfl ?_); refine goesL_ (some 17) rfl rfl Tryd.func19 (by kernel_rfl) rfl #[.agg #[.int .i64 a0_0, .slice A0_1 l0_1.length c0_1]] rfl (by (try simp only [List.map_toArray, List.map_cons, List.map_nil]); first | done | rfl | (simp only [List.length_drop, List.length_take]; rfl)) ?_; (with_reducible refine (familycheckref01_Validate.calls k a0_0 _ _ l0_1 t575 _ ?side1 ?side2 A3.out).mono ?_); (case side1 => repeat (first | exact (Kd.C_below HR0_1.out HB.out) | (with_reducible refine Kd.C_alloc ?_ _) | (with_reducible refine Kd.C_drewN ?_ _) | (with_reducible refine Kd.C_drew ?_))); (case side2 => exact HC0_1.out); rintro e w41 ⟨rfl, hb⟩; refine ⟨_, rfl, ?_⟩; have n0_ := Aside0.mk (blk_below (g := gb574) (o := .cells #[.int .i64 a0_0, .slice A0_1 l0_1.length c0_1] 24 (0, 0)) (by (with_reducible repeat (first | refine blk_drewN ?_ _ | refine blk_drew ?_ | refine blk_alloc ?_ _)); exact BK574.out) hb); have n1_ := Aside0.mk (below_step (by repeat (first | (with_reducible first | exact HB.out | apply below_alloc | apply pw_below_drewN | apply below_drew1 | refine below_set ?_ GE574.out) | exact HB.out)) hb); clear BK574; clear HB; have BK574 := n0_; have HB := n1_; clear n0_ n1_; (try clear hb); (try clear hb2); (try clear hk); (try clear hi)) | ((with_reducible refine gate_callee (f := 50) rfl ?_); refine goesL_ (some 22) rfl rfl Tryd.func50 (by kernel_rfl) rfl #[.int .i64 a1, .int .i64 0, .int .i64 1048576] rfl (by (try simp only [List.map_toArray, List.map_cons, List.map_nil]); first | done | rfl | (simp only [List.length_drop, List.length_take]; rfl)) ?_; (with_reducible refine (familycheckref01_within.calls a1 0 1048576 false _ A5.out).mono ?_); rintro e w' ⟨rfl, ⟨nd, rfl⟩⟩; refine ⟨_, rfl, ?_⟩))
      go_ret3
      exact ⟨_, by first | rfl | (simp [errW_none, errW_some] <;> rfl) | (simp [*, errW_none, errW_some] <;> rfl), by first | exact Kd.R_nil _ _ _ _ _ | exact Kd.N_nil _ _ _ _ _ | exact Kd.V_nil _ _ _ _ _ | exact Kd.Q_nil _ _ _ _ _ | exact Kd.S_nil _ _ _ _ _, by repeat (first | (with_reducible first | exact HB.out | apply below_alloc | apply pw_below_drewN | apply below_drew1 | refine below_set ?_ GE574.out) | exact HB.out)⟩
  · rw [if_neg c4] at H
    have c4b0 : (t575 == 0) = false := beq_eq_false_iff_ne.mpr c4
    have c4b1 : (t575 != 0) = true := bne_iff_ne.mpr c4
    simp only [Option.some.injEq, Prod.mk.injEq] at H
    obtain ⟨rfl, rfl, rfl⟩ := H
    go_enter Tryd.func47, Tryd.ntmps47
    go_wp2_with (first | ((with_reducible refine gate_dst (N := 2) rfl ?_); refine box_event ?hg (N := 2) ?hd (cs := #[.int .i64 a0_0, .slice A0_1 l0_1.length c0_1]) (t := 24) ?hr ?_; (case hd => rfl); (case hg => rfl); (case hr => first | (go_simp; done) | (go_simp; rfl)); intro gb574 hg w42 hbox hb; have n0_ := Aside0.mk (below_step (by repeat (first | (with_reducible first | exact HB.out | apply below_alloc | apply pw_below_drewN | apply below_drew1) | exact HB.out)) hb); have n1_ := Aside0.mk (hbox); have n2_ := Aside0.mk ((by rw [hg]; exact (below_size (by repeat (first | (with_reducible first | exact HB.out | apply below_alloc | apply pw_below_drewN | apply below_drew1) | exact HB.out))) : w.heap.size ≤ gb574)); have n3_ := Aside0.mk ((by rw [hg]; exact (below_size (by repeat (first | (with_reducible first | exact HB.out | apply below_alloc | apply pw_below_drewN | apply below_drew1) | exact HB.out))) : w.heap.size ≤ gb574)); clear HB; have HB := n0_; have BK574 := n1_; have GW574 := n2_; have GE574 := n3_; clear n0_ n1_ n2_ n3_; clear hb hbox hg; have hcz43_0 : w42.cell? ⟨gb574, 0, none⟩ = some (.int .i64 a0_0) := (blk_cell BK574.out 0).trans rfl; have hcz43_1 : w42.cell? ⟨gb574, 1, none⟩ = some (.slice A0_1 l0_1.length c0_1) := (blk_cell BK574.out 1).trans rfl; have hfz43_0 := blk_frozen BK574.out 0; have hfz43_1 := blk_frozen BK574.out 1) | ((with_reducible refine gate_callee (f := 19) rfl ?_); refine goesL_ (some 17) rfl rfl Tryd.func19 (by kernel_rfl) rfl #[.agg #[.int .i64 a0_0, .slice A0_1 l0_1.length c0_1]] rfl (by (try simp only [List.map_toArray, List.map_cons, List.map_nil]); first | done | rfl | (simp only [List.length_drop, List.length_take]; rfl)) ?_; (with_reducible refine (familycheckref01_Validate.calls k a0_0 _ _ l0_1 t575 _ ?side1 ?side2 A3.out).mono ?_); (case side1 => repeat (first | exact (Kd.C_below HR0_1.out HB.out) | (with_reducible refine Kd.C_alloc ?_ _) | (with_reducible refine Kd.C_drewN ?_ _) | (with_reducible refine Kd.C_drew ?_))); (case side2 => exact HC0_1.out); rintro e w44 ⟨rfl, hb⟩; refine ⟨_, rfl, ?_⟩; have n0_ := Aside0.mk (blk_below (g := gb574) (o := .cells #[.int .i64 a0_0, .slice A0_1 l0_1.length c0_1] 24 (0, 0)) (by (with_reducible repeat (first | refine blk_drewN ?_ _ | refine blk_drew ?_ | refine blk_alloc ?_ _)); exact BK574.out) hb); have n1_ := Aside0.mk (below_step (by repeat (first | (with_reducible first | exact HB.out | apply below_alloc | apply pw_below_drewN | apply below_drew1 | refine below_set ?_ GE574.out) | exact HB.out)) hb); clear BK574; clear HB; have BK574 := n0_; have HB := n1_; clear n0_ n1_; (try clear hb); (try clear hb2); (try clear hk); (try clear hi)))
    go_ret3
    exact ⟨_, by first | rfl | (simp [errW_none, errW_some] <;> rfl) | (simp [*, errW_none, errW_some] <;> rfl), by first | exact Kd.R_nil _ _ _ _ _ | exact Kd.N_nil _ _ _ _ _ | exact Kd.V_nil _ _ _ _ _ | exact Kd.Q_nil _ _ _ _ _ | exact Kd.S_nil _ _ _ _ _, by repeat (first | (with_reducible first | exact HB.out | apply below_alloc | apply pw_below_drewN | apply below_drew1 | refine below_set ?_ GE574.out) | exact HB.out)⟩

end Go.Proofs.YtbioiodjdfcooaaDoor.P
