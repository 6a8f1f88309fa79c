import Derived.Test.YtbioiodjdfcooaaDoorVBPx0
import Derived.Test.YtbioiodjdfcooaaDoorVBPx8
import Derived.Test.YtbioiodjdfcooaaDoorVBPx29
-- Written by a program of this session (wip/tools/doprint.sh: the kit's print, with given texts for some functions).
namespace Go.Proofs.YtbioiodjdfcooaaDoor.P
open Go.RowKit Go.Proofs.YtbioiodjdfcooaaDoorW.PrintWords Go.Proofs.YtbioiodjdfcooaaDoorW.PrintLast Go.Proofs.YtbioiodjdfcooaaDoorW.PrintMore
attribute [local go_sem] max2_int min2_int max_two min_two max_three min_three max_four min_four   -- for this text's walks alone
set_option linter.unusedVariables false
set_option linter.unusedSimpArgs false

/-! ### familycheckref01_Combine: function 40 -/
mutual
def familycheckref01_Combine.j0 : Nat → Int → Int → Bool → List Int → Int → List Int → Int → Option (List Int × Int × Int)
  | 0, _, _, _, _, _, _, _ => none
  | k + 1, x1, x3, x33, x413000, x413001, x414000, x414001 => if x33 = true then (some (([] : List Int), 0, 1)) else ((familycheckref01_Small.f k x413000 x413001).bind fun t417 => (if t417 = true then ((familycheckref01_Small.f k x414000 x414001).bind fun t418 => (familycheckref01_Combine.j1 k x1 x3 (!t418) x413000 x413001 x414000 x414001)) else (familycheckref01_Combine.j1 k x1 x3 true x413000 x413001 x414000 x414001)))
def familycheckref01_Combine.j1 : Nat → Int → Int → Bool → List Int → Int → List Int → Int → Option (List Int × Int × Int)
  | 0, _, _, _, _, _, _, _ => none
  | k + 1, x1, x3, x42, x413000, x413001, x414000, x414001 => if x42 = true then (some (([] : List Int), 0, 4)) else ((familycheckref01_mix.f k x413000 x413001 x1 x414000 x414001 x3).bind fun bt419 => ((familycheckref01_Small.f k bt419.1 bt419.2).bind fun t424 => (if t424 = true then (some (bt419.1, bt419.2, 0)) else (some (([] : List Int), 0, 4)))))
end
def familycheckref01_Combine.f (k : Nat) (l0_0 : List Int) (a0_1 : Int) (a1 : Int) (l2_0 : List Int) (a2_1 : Int) (a3 : Int) : Option (List Int × Int × Int) := if (l0_0.length : Int) = (l2_0.length : Int) then (if (l0_0.length : Int) > 96 then (familycheckref01_Combine.j0 k a1 a3 true l0_0 a0_1 l2_0 a2_1) else ((familycheckref01_within.f a1 0 65536).bind fun t415 => (if t415 = true then ((familycheckref01_within.f a3 0 65536).bind fun t416 => (familycheckref01_Combine.j0 k a1 a3 (!t416) l0_0 a0_1 l2_0 a2_1)) else (familycheckref01_Combine.j0 k a1 a3 true l0_0 a0_1 l2_0 a2_1)))) else (familycheckref01_Combine.j0 k a1 a3 true l0_0 a0_1 l2_0 a2_1)
set_option maxHeartbeats 8000000 in
set_option maxRecDepth 100000 in
theorem familycheckref01_Combine.calls (k : Nat) (A0_0 : Option Addr) (c0_0 : Nat) (l0_0 : List Int) (a0_1 : Int) (a1 : Int) (A2_0 : Option Addr) (c2_0 : Nat) (l2_0 : List Int) (a2_1 : Int) (a3 : Int) (r1 : List Int) (r2 : Int) (r3 : Int) (w : World) (hr0_0 : Kd.C (Kd.int .i64) w A0_0 l0_0.length l0_0) (hc0_0 : l0_0.length ≤ c0_0) (hr2_0 : Kd.C (Kd.int .i64) w A2_0 l2_0.length l2_0) (hc2_0 : l2_0.length ≤ c2_0) (h : familycheckref01_Combine.f k l0_0 a0_1 a1 l2_0 a2_1 a3 = some (r1, r2, r3)) :
    Calls Tryd.prog 40 #[.agg #[.slice A0_0 l0_0.length c0_0, .int .i64 a0_1], .int .i64 a1, .agg #[.slice A2_0 l2_0.length c2_0, .int .i64 a2_1], .int .i64 a3] w fun e w' => ∃ v0_ : Value, e = .returned (.tuple #[.agg #[v0_, .int .i64 r2], .int .i64 r3]) ∧ Kd.R (Kd.int .i64) 3 w' w.heap.size (fun _ => True) v0_ r1 ∧ Below w.heap.size w w' := by
  have hu33 := Tryd.underlying33
  have HR0_0 := Aside0.mk hr0_0
  have HC0_0 := Aside0.mk hc0_0
  clear hr0_0 hc0_0
  have HR2_0 := Aside0.mk hr2_0
  have HC2_0 := Aside0.mk hc2_0
  clear hr2_0 hc2_0
  have HB := Aside0.mk (Below.refl w.heap.size w)
  have H : (if (l0_0.length : Int) = (l2_0.length : Int) then (if (l0_0.length : Int) > 96 then (familycheckref01_Combine.j0 k a1 a3 true l0_0 a0_1 l2_0 a2_1) else ((familycheckref01_within.f a1 0 65536).bind fun t415 => (if t415 = true then ((familycheckref01_within.f a3 0 65536).bind fun t416 => (familycheckref01_Combine.j0 k a1 a3 (!t416) l0_0 a0_1 l2_0 a2_1)) else (familycheckref01_Combine.j0 k a1 a3 true l0_0 a0_1 l2_0 a2_1)))) else (familycheckref01_Combine.j0 k a1 a3 true l0_0 a0_1 l2_0 a2_1)) = some (r1, r2, r3) := h
  clear h
  have HC5 := Aside0.mk H
  clear H
  go_enter Tryd.func40, Tryd.ntmps40
  go_upto_region 1 with (first | ((with_reducible refine gate_dst (N := 4) rfl ?_); (try (refine gate_guard (by rfl) ?_; dsimp only)); refine box_event ?hg (N := 4) ?hd (cs := #[.slice A0_0 l0_0.length c0_0, .int .i64 a0_1]) (t := 33) ?hr ?_; (case hd => rfl); (case hg => rfl); (case hr => first | (go_simp; done) | (go_simp; rfl)); intro gb412 hg w6 hbox hb; have n0_ := Aside0.mk (below_step (by repeat (first | (with_reducible first | exact HB.out | apply below_alloc | apply pw_below_drewN | apply below_drew1) | exact HB.out)) hb); have n1_ := Aside0.mk (hbox); have n2_ := Aside0.mk ((by rw [hg]; exact (below_size (by repeat (first | (with_reducible first | exact HB.out | apply below_alloc | apply pw_below_drewN | apply below_drew1) | exact HB.out))) : w.heap.size ≤ gb412)); have n3_ := Aside0.mk ((by rw [hg]; exact (below_size (by repeat (first | (with_reducible first | exact HB.out | apply below_alloc | apply pw_below_drewN | apply below_drew1) | exact HB.out))) : w.heap.size ≤ gb412)); clear HB; have HB := n0_; have BK412 := n1_; have GW412 := n2_; have GE412 := n3_; clear n0_ n1_ n2_ n3_; clear hb hbox hg) | ((with_reducible refine gate_dst (N := 6) rfl ?_); (try (refine gate_guard (by rfl) ?_; dsimp only)); refine box_event ?hg (N := 6) ?hd (cs := #[.slice A2_0 l2_0.length c2_0, .int .i64 a2_1]) (t := 33) ?hr ?_; (case hd => rfl); (case hg => rfl); (case hr => first | (go_simp; done) | (go_simp; rfl)); intro gb413 hg w7 hbox hb; have n0_ := Aside0.mk (blk_below (g := gb412) (o := .cells #[.slice A0_0 l0_0.length c0_0, .int .i64 a0_1] 33 (0, 0)) (by (with_reducible repeat (first | refine blk_drewN ?_ _ | refine blk_drew ?_ | refine blk_alloc ?_ _)); exact BK412.out) hb); have n1_ := Aside0.mk (below_step (by repeat (first | (with_reducible first | exact HB.out | apply below_alloc | apply pw_below_drewN | apply below_drew1 | refine below_set ?_ GE412.out) | exact HB.out)) hb); have n2_ := Aside0.mk (hbox); have n3_ := Aside0.mk ((by rw [hg]; exact (below_size (by repeat (first | (with_reducible first | exact HB.out | apply below_alloc | apply pw_below_drewN | apply below_drew1 | refine below_set ?_ GE412.out) | exact HB.out))) : w.heap.size ≤ gb413)); have n4_ := Aside0.mk ((by rw [hg]; exact (below_size (by repeat (first | (with_reducible first | exact HB.out | apply below_alloc | apply pw_below_drewN | apply below_drew1 | refine below_set ?_ GE412.out) | exact HB.out))) : w.heap.size ≤ gb413)); have n5_ := Aside0.mk ((by rw [hg]; exact Nat.ne_of_lt (blk_lt (g := gb412) (o := .cells #[.slice A0_0 l0_0.length c0_0, .int .i64 a0_1] 33 (0, 0)) (by (with_reducible repeat (first | refine blk_drewN ?_ _ | refine blk_drew ?_ | refine blk_alloc ?_ _)); exact BK412.out)) : gb412 ≠ gb413)); have n6_ := Aside0.mk ((by rw [hg]; exact Nat.ne_of_gt (blk_lt (g := gb412) (o := .cells #[.slice A0_0 l0_0.length c0_0, .int .i64 a0_1] 33 (0, 0)) (by (with_reducible repeat (first | refine blk_drewN ?_ _ | refine blk_drew ?_ | refine blk_alloc ?_ _)); exact BK412.out)) : gb413 ≠ gb412)); clear BK412; clear HB; have BK412 := n0_; have HB := n1_; have BK413 := n2_; have GW413 := n3_; have GE413 := n4_; have NB412_413 := n5_; have NB413_412 := n6_; clear n0_ n1_ n2_ n3_ n4_ n5_ n6_; clear hb hbox hg) | ((with_reducible refine gate_dst (N := 8) rfl ?_); (try (refine gate_guard (by rfl) ?_; dsimp only)); refine box_event ?hg (N := 8) ?hd (cs := #[.slice none 0 0, .int .i64 0]) (t := 33) ?hr ?_; (case hd => rfl); (case hg => rfl); (case hr => first | (go_simp; done) | (go_simp; rfl)); intro gb414 hg w8 hbox hb; have n0_ := Aside0.mk (blk_below (g := gb412) (o := .cells #[.slice A0_0 l0_0.length c0_0, .int .i64 a0_1] 33 (0, 0)) (by (with_reducible repeat (first | refine blk_drewN ?_ _ | refine blk_drew ?_ | refine blk_alloc ?_ _)); exact BK412.out) hb); have n1_ := Aside0.mk (blk_below (g := gb413) (o := .cells #[.slice A2_0 l2_0.length c2_0, .int .i64 a2_1] 33 (0, 0)) (by (with_reducible repeat (first | refine blk_drewN ?_ _ | refine blk_drew ?_ | refine blk_alloc ?_ _)); exact BK413.out) hb); have n2_ := Aside0.mk (below_step (by repeat (first | (with_reducible first | exact HB.out | apply below_alloc | apply pw_below_drewN | apply below_drew1 | refine below_set ?_ GE412.out | refine below_set ?_ GE413.out) | exact HB.out)) hb); have n3_ := Aside0.mk (hbox); have n4_ := Aside0.mk ((by rw [hg]; exact (below_size (by repeat (first | (with_reducible first | exact HB.out | apply below_alloc | apply pw_below_drewN | apply below_drew1 | refine below_set ?_ GE412.out | refine below_set ?_ GE413.out) | exact HB.out))) : w.heap.size ≤ gb414)); have n5_ := Aside0.mk ((by rw [hg]; exact (below_size (by repeat (first | (with_reducible first | exact HB.out | apply below_alloc | apply pw_below_drewN | apply below_drew1 | refine below_set ?_ GE412.out | refine below_set ?_ GE413.out) | exact HB.out))) : w.heap.size ≤ gb414)); have n6_ := Aside0.mk ((by rw [hg]; exact Nat.ne_of_lt (blk_lt (g := gb412) (o := .cells #[.slice A0_0 l0_0.length c0_0, .int .i64 a0_1] 33 (0, 0)) (by (with_reducible repeat (first | refine blk_drewN ?_ _ | refine blk_drew ?_ | refine blk_alloc ?_ _)); exact BK412.out)) : gb412 ≠ gb414)); have n7_ := Aside0.mk ((by rw [hg]; exact Nat.ne_of_gt (blk_lt (g := gb412) (o := .cells #[.slice A0_0 l0_0.length c0_0, .int .i64 a0_1] 33 (0, 0)) (by (with_reducible repeat (first | refine blk_drewN ?_ _ | refine blk_drew ?_ | refine blk_alloc ?_ _)); exact BK412.out)) : gb414 ≠ gb412)); have n8_ := Aside0.mk ((by rw [hg]; exact Nat.ne_of_lt (blk_lt (g := gb413) (o := .cells #[.slice A2_0 l2_0.length c2_0, .int .i64 a2_1] 33 (0, 0)) (by (with_reducible repeat (first | refine blk_drewN ?_ _ | refine blk_drew ?_ | refine blk_alloc ?_ _)); exact BK413.out)) : gb413 ≠ gb414)); have n9_ := Aside0.mk ((by rw [hg]; exact Nat.ne_of_gt (blk_lt (g := gb413) (o := .cells #[.slice A2_0 l2_0.length c2_0, .int .i64 a2_1] 33 (0, 0)) (by (with_reducible repeat (first | refine blk_drewN ?_ _ | refine blk_drew ?_ | refine blk_alloc ?_ _)); exact BK413.out)) : gb414 ≠ gb413)); clear BK412; clear BK413; clear HB; have BK412 := n0_; have BK413 := n1_; have HB := n2_; have BK414 := n3_; have GW414 := n4_; have GE414 := n5_; have NB412_414 := n6_; have NB414_412 := n7_; have NB413_414 := n8_; have NB414_413 := n9_; clear n0_ n1_ n2_ n3_ n4_ n5_ n6_ n7_ n8_ n9_; clear hb hbox hg))
  (try simp only [Act.put, List.setIfInBounds_toArray, List.set_cons_zero, List.set_cons_succ])
  go_cut [33] (fun v33 wc => ∃ (kq : Nat) (x33_4 : Bool), v33 = .bool x33_4 ∧ Aside0 (familycheckref01_Combine.j0 kq a1 a3 x33_4 l0_0 a0_1 l2_0 a2_1 = some (r1, r2, r3)) ∧ Aside0 (kq ≤ k) ∧ Aside0 (wc.heap[gb412]? = some (.cells #[(.slice A0_0 l0_0.length c0_0), .int .i64 a0_1] 33 (0, 0))) ∧ Aside0 (wc.heap[gb413]? = some (.cells #[(.slice A2_0 l2_0.length c2_0), .int .i64 a2_1] 33 (0, 0))) ∧ Aside0 (wc.heap[gb414]? = some (.cells #[(.slice none 0 0), .int .i64 0] 33 (0, 0))) ∧ Aside0 (Below w.heap.size w wc))
  case first =>
    have H := HC5.out
    clear HC5
    by_cases c9 : (l0_0.length : Int) = (l2_0.length : Int)
    · rw [if_pos c9] at H
      have c9b0 : ((l0_0.length : Int) == (l2_0.length : Int)) = true := beq_iff_eq.mpr c9
      have c9b1 : ((l0_0.length : Int) != (l2_0.length : Int)) = false := bne_eq_false_iff_eq.mpr c9
      have c9b2 : (l0_0.length == l2_0.length) = true := by first | simpa using c9 | (simp at c9 ⊢; omega)
      clear c9
      (first | rw [c9b0] | (simp only [i64_w, i32_w]; rw [c9b0]) | skip)
      by_cases c10 : (l0_0.length : Int) > 96
      · rw [if_pos c10] at H
        have c10b0 : decide (96 < (l0_0.length : Int)) = true := decide_eq_true c10
        have c10b1 : decide (96 < l0_0.length) = true := decide_eq_true (by omega)
        clear c10
        have H' := Aside0.mk H
        clear H
        have hnb11 := NB412_413.out
        have hnc11 := NB413_412.out
        have hnb12 := NB412_414.out
        have hnc12 := NB414_412.out
        have hcz13_0 : w8.cell? ⟨gb412, 0, none⟩ = some (.slice A0_0 l0_0.length c0_0) := (blk_cell BK412.out 0).trans rfl
        have hcz13_1 : w8.cell? ⟨gb412, 1, none⟩ = some (.int .i64 a0_1) := (blk_cell BK412.out 1).trans rfl
        have hfz13_0 := blk_frozen BK412.out 0
        have hfz13_1 := blk_frozen BK412.out 1
        have hnb14 := NB413_414.out
        have hnc14 := NB414_413.out
        have hcz15_0 : w8.cell? ⟨gb413, 0, none⟩ = some (.slice A2_0 l2_0.length c2_0) := (blk_cell BK413.out 0).trans rfl
        have hcz15_1 : w8.cell? ⟨gb413, 1, none⟩ = some (.int .i64 a2_1) := (blk_cell BK413.out 1).trans rfl
        have hfz15_0 := blk_frozen BK413.out 0
        have hfz15_1 := blk_frozen BK413.out 1
        go_wp2
        go_meet
        case rel => exact ⟨_, (true), (by first | rfl | (simp; done) | (simp [*]; done)), H', ⟨by first | omega | exact Nat.le_refl _⟩, ⟨by (with_reducible repeat (first | refine blk_drewN ?_ _ | refine blk_drew ?_ | refine blk_alloc ?_ _)); exact BK412.out⟩, ⟨by (with_reducible repeat (first | refine blk_drewN ?_ _ | refine blk_drew ?_ | refine blk_alloc ?_ _)); exact BK413.out⟩, ⟨by (with_reducible repeat (first | refine blk_drewN ?_ _ | refine blk_drew ?_ | refine blk_alloc ?_ _)); exact BK414.out⟩, ⟨by repeat (first | (with_reducible first | exact HB.out | apply below_alloc | apply pw_below_drewN | apply below_drew1 | refine below_set ?_ GE412.out | refine below_set ?_ GE413.out | refine below_set ?_ GE414.out) | exact HB.out)⟩⟩
      · rw [if_neg c10] at H
        have c10b0 : decide (96 < (l0_0.length : Int)) = false := decide_eq_false c10
        have c10b1 : decide (96 < l0_0.length) = false := decide_eq_false (by omega)
        clear c10
        replace H := Option.bind_eq_some_iff.mp H
        obtain ⟨t415, A160, H⟩ := H
        replace H : (if t415 = true then ((familycheckref01_within.f a3 0 65536).bind fun t416 => (familycheckref01_Combine.j0 k a1 a3 (!t416) l0_0 a0_1 l2_0 a2_1)) else (familycheckref01_Combine.j0 k a1 a3 true l0_0 a0_1 l2_0 a2_1)) = some (r1, r2, r3) := H
        have A16 := Aside0.mk A160
        clear A160
        by_cases c17 : t415 = true
        · subst c17
          have H1 : ((familycheckref01_within.f a3 0 65536).bind fun t416 => (familycheckref01_Combine.j0 k a1 a3 (!t416) l0_0 a0_1 l2_0 a2_1)) = some (r1, r2, r3) := by rw [if_pos rfl] at H; exact H
          clear H
          have H := H1
          clear H1
          replace H := Option.bind_eq_some_iff.mp H
          obtain ⟨t416, A180, H⟩ := H
          replace H : (familycheckref01_Combine.j0 k a1 a3 (!t416) l0_0 a0_1 l2_0 a2_1) = some (r1, r2, r3) := H
          have A18 := Aside0.mk A180
          clear A180
          have H' := Aside0.mk H
          clear H
          have hnb19 := NB412_413.out
          have hnc19 := NB413_412.out
          have hnb20 := NB412_414.out
          have hnc20 := NB414_412.out
          have hcz21_0 : w8.cell? ⟨gb412, 0, none⟩ = some (.slice A0_0 l0_0.length c0_0) := (blk_cell BK412.out 0).trans rfl
          have hcz21_1 : w8.cell? ⟨gb412, 1, none⟩ = some (.int .i64 a0_1) := (blk_cell BK412.out 1).trans rfl
          have hfz21_0 := blk_frozen BK412.out 0
          have hfz21_1 := blk_frozen BK412.out 1
          have hnb22 := NB413_414.out
          have hnc22 := NB414_413.out
          have hcz23_0 : w8.cell? ⟨gb413, 0, none⟩ = some (.slice A2_0 l2_0.length c2_0) := (blk_cell BK413.out 0).trans rfl
          have hcz23_1 : w8.cell? ⟨gb413, 1, none⟩ = some (.int .i64 a2_1) := (blk_cell BK413.out 1).trans rfl
          have hfz23_0 := blk_frozen BK413.out 0
          have hfz23_1 := blk_frozen BK413.out 1
          go_wp2_with (first | (go_at_call 50; (with_reducible refine (familycheckref01_within.calls a1 0 65536 true _ A16.out).mono ?_); rintro e w' ⟨rfl, ⟨nd, rfl⟩⟩) | (go_at_call 50; (with_reducible refine (familycheckref01_within.calls a3 0 65536 t416 _ A18.out).mono ?_); rintro e w' ⟨rfl, ⟨nd, rfl⟩⟩))
          go_meet
          case rel => exact ⟨_, (!t416), (by first | rfl | (simp; done) | (simp [*]; done)), H', ⟨by first | omega | exact Nat.le_refl _⟩, ⟨by (with_reducible repeat (first | refine blk_drewN ?_ _ | refine blk_drew ?_ | refine blk_alloc ?_ _)); exact BK412.out⟩, ⟨by (with_reducible repeat (first | refine blk_drewN ?_ _ | refine blk_drew ?_ | refine blk_alloc ?_ _)); exact BK413.out⟩, ⟨by (with_reducible repeat (first | refine blk_drewN ?_ _ | refine blk_drew ?_ | refine blk_alloc ?_ _)); exact BK414.out⟩, ⟨by repeat (first | (with_reducible first | exact HB.out | apply below_alloc | apply pw_below_drewN | apply below_drew1 | refine below_set ?_ GE412.out | refine below_set ?_ GE413.out | refine below_set ?_ GE414.out) | exact HB.out)⟩⟩
        · replace c17 := Bool.eq_false_iff.mpr c17
          subst c17
          have H1 : (familycheckref01_Combine.j0 k a1 a3 true l0_0 a0_1 l2_0 a2_1) = some (r1, r2, r3) := by rw [if_neg (show ¬ (false = true) by decide)] at H; exact H
          clear H
          have H := H1
          clear H1
          have H' := Aside0.mk H
          clear H
          have hnb24 := NB412_413.out
          have hnc24 := NB413_412.out
          have hnb25 := NB412_414.out
          have hnc25 := NB414_412.out
          have hcz26_0 : w8.cell? ⟨gb412, 0, none⟩ = some (.slice A0_0 l0_0.length c0_0) := (blk_cell BK412.out 0).trans rfl
          have hcz26_1 : w8.cell? ⟨gb412, 1, none⟩ = some (.int .i64 a0_1) := (blk_cell BK412.out 1).trans rfl
          have hfz26_0 := blk_frozen BK412.out 0
          have hfz26_1 := blk_frozen BK412.out 1
          have hnb27 := NB413_414.out
          have hnc27 := NB414_413.out
          have hcz28_0 : w8.cell? ⟨gb413, 0, none⟩ = some (.slice A2_0 l2_0.length c2_0) := (blk_cell BK413.out 0).trans rfl
          have hcz28_1 : w8.cell? ⟨gb413, 1, none⟩ = some (.int .i64 a2_1) := (blk_cell BK413.out 1).trans rfl
          have hfz28_0 := blk_frozen BK413.out 0
          have hfz28_1 := blk_frozen BK413.out 1
          go_wp2_with (first | (go_at_call 50; (with_reducible refine (familycheckref01_within.calls a1 0 65536 false _ A16.out).mono ?_); rintro e w' ⟨rfl, ⟨nd, rfl⟩⟩))
          go_meet
          case rel => exact ⟨_, (true), (by first | rfl | (simp; done) | (simp [*]; done)), H', ⟨by first | omega | exact Nat.le_refl _⟩, ⟨by (with_reducible repeat (first | refine blk_drewN ?_ _ | refine blk_drew ?_ | refine blk_alloc ?_ _)); exact BK412.out⟩, ⟨by (with_reducible repeat (first | refine blk_drewN ?_ _ | refine blk_drew ?_ | refine blk_alloc ?_ _)); exact BK413.out⟩, ⟨by (with_reducible repeat (first | refine blk_drewN ?_ _ | refine blk_drew ?_ | refine blk_alloc ?_ _)); exact BK414.out⟩, ⟨by repeat (first | (with_reducible first | exact HB.out | apply below_alloc | apply pw_below_drewN | apply below_drew1 | refine below_set ?_ GE412.out | refine below_set ?_ GE413.out | refine below_set ?_ GE414.out) | exact HB.out)⟩⟩
    · rw [if_neg c9] at H
      have c9b0 : ((l0_0.length : Int) == (l2_0.length : Int)) = false := beq_eq_false_iff_ne.mpr c9
      have c9b1 : ((l0_0.length : Int) != (l2_0.length : Int)) = true := bne_iff_ne.mpr c9
      have c9b2 : (l0_0.length == l2_0.length) = false := by first | simpa using c9 | (simp at c9 ⊢; omega)
      (first | rw [c9b0] | (simp only [i64_w, i32_w]; rw [c9b0]) | skip)
      have H' := Aside0.mk H
      clear H
      have hnb29 := NB412_413.out
      have hnc29 := NB413_412.out
      have hnb30 := NB412_414.out
      have hnc30 := NB414_412.out
      have hcz31_0 : w8.cell? ⟨gb412, 0, none⟩ = some (.slice A0_0 l0_0.length c0_0) := (blk_cell BK412.out 0).trans rfl
      have hcz31_1 : w8.cell? ⟨gb412, 1, none⟩ = some (.int .i64 a0_1) := (blk_cell BK412.out 1).trans rfl
      have hfz31_0 := blk_frozen BK412.out 0
      have hfz31_1 := blk_frozen BK412.out 1
      have hnb32 := NB413_414.out
      have hnc32 := NB414_413.out
      have hcz33_0 : w8.cell? ⟨gb413, 0, none⟩ = some (.slice A2_0 l2_0.length c2_0) := (blk_cell BK413.out 0).trans rfl
      have hcz33_1 : w8.cell? ⟨gb413, 1, none⟩ = some (.int .i64 a2_1) := (blk_cell BK413.out 1).trans rfl
      have hfz33_0 := blk_frozen BK413.out 0
      have hfz33_1 := blk_frozen BK413.out 1
      go_wp2
      go_meet
      case rel => exact ⟨_, (true), (by first | rfl | (simp; done) | (simp [*]; done)), H', ⟨by first | omega | exact Nat.le_refl _⟩, ⟨by (with_reducible repeat (first | refine blk_drewN ?_ _ | refine blk_drew ?_ | refine blk_alloc ?_ _)); exact BK412.out⟩, ⟨by (with_reducible repeat (first | refine blk_drewN ?_ _ | refine blk_drew ?_ | refine blk_alloc ?_ _)); exact BK413.out⟩, ⟨by (with_reducible repeat (first | refine blk_drewN ?_ _ | refine blk_drew ?_ | refine blk_alloc ?_ _)); exact BK414.out⟩, ⟨by repeat (first | (with_reducible first | exact HB.out | apply below_alloc | apply pw_below_drewN | apply below_drew1 | refine below_set ?_ GE412.out | refine below_set ?_ GE413.out | refine below_set ?_ GE414.out) | exact HB.out)⟩⟩
  case rest =>
    clear HC5
    try clear c1
    try clear c2
    try clear p2
    try clear c3
    try clear c4
    try clear c9
    try clear c9b0
    try clear c9b1
    try clear c9b2
    try clear c10
    try clear c10b0
    try clear c10b1
    try clear c11
    try clear c12
    try clear c14
    try clear c17
    try clear c19
    try clear c20
    try clear c22
    try clear c24
    try clear c25
    try clear c27
    try clear c29
    try clear c30
    try clear c32
    try clear hcz13_0
    try clear hcz13_1
    try clear hcz15_0
    try clear hcz15_1
    try clear hcz21_0
    try clear hcz21_1
    try clear hcz23_0
    try clear hcz23_1
    try clear hcz26_0
    try clear hcz26_1
    try clear hcz28_0
    try clear hcz28_1
    try clear hcz31_0
    try clear hcz31_1
    try clear hcz33_0
    try clear hcz33_1
    try clear hfz13_0
    try clear hfz13_1
    try clear hfz15_0
    try clear hfz15_1
    try clear hfz21_0
    try clear hfz21_1
    try clear hfz23_0
    try clear hfz23_1
    try clear hfz26_0
    try clear hfz26_1
    try clear hfz28_0
    try clear hfz28_1
    try clear hfz31_0
    try clear hfz31_1
    try clear hfz33_0
    try clear hfz33_1
    obtain ⟨kq, x33_4, rfl, HA, HJ4, BK412, BK413, BK414, HB⟩ := hcut
    cases kq with
    | zero => exact absurd HA.out (by simp [familycheckref01_Combine.j0])
    | succ kj4 =>
      have H := HA.out
      clear HA
      simp only [familycheckref01_Combine.j0] at H
      by_cases c34 : x33_4 = true
      · subst c34
        have H1 : (some (([] : List Int), 0, 1)) = some (r1, r2, r3) := by rw [if_pos rfl] at H; exact H
        clear H
        have H := H1
        clear H1
        simp only [Option.some.injEq, Prod.mk.injEq] at H
        obtain ⟨rfl, rfl, rfl⟩ := H
        have hnb35 := NB414_412.out
        have hnc35 := NB412_414.out
        have hnb36 := NB414_413.out
        have hnc36 := NB413_414.out
        have hcz37_0 : wc.cell? ⟨gb414, 0, none⟩ = some (.slice none 0 0) := (blk_cell BK414.out 0).trans rfl
        have hcz37_1 : wc.cell? ⟨gb414, 1, none⟩ = some (.int .i64 0) := (blk_cell BK414.out 1).trans rfl
        have hfz37_0 := blk_frozen BK414.out 0
        have hfz37_1 := blk_frozen BK414.out 1
        go_wp2
        refine bodyPost_ret (results_ct rfl _ _ gb414 33 #[.slice none 0 0, .int .i64 0] (0, 0) _ rfl (by (with_reducible repeat (first | refine blk_drewN ?_ _ | refine blk_drew ?_ | refine blk_alloc ?_ _)); refine blk_put (cs := #[.slice none 0 0, .int .i64 0]) ?_ 1 _ rfl; (with_reducible repeat (first | refine blk_drewN ?_ _ | refine blk_drew ?_ | refine blk_alloc ?_ _)); refine blk_put (cs := #[.slice none 0 0, .int .i64 0]) ?_ 0 _ rfl; (with_reducible repeat (first | refine blk_drewN ?_ _ | refine blk_drew ?_ | refine blk_alloc ?_ _)); exact BK414.out) Tryd.underlying33 rfl (by kernel_rfl)) rfl ?_
        exact ⟨_, by first | rfl | (simp [errW_none, errW_some] <;> rfl) | (simp [*, errW_none, errW_some] <;> rfl), by first | exact Kd.R_nil _ _ _ _ _ | exact Kd.N_nil _ _ _ _ _ | exact Kd.V_nil _ _ _ _ _ | exact Kd.Q_nil _ _ _ _ _ | exact Kd.S_nil _ _ _ _ _, by repeat (first | (with_reducible first | exact HB.out | apply below_alloc | apply pw_below_drewN | apply below_drew1 | refine below_set ?_ GE412.out | refine below_set ?_ GE413.out | refine below_set ?_ GE414.out) | exact HB.out)⟩
      · replace c34 := Bool.eq_false_iff.mpr c34
        subst c34
        have H1 : ((familycheckref01_Small.f kj4 l0_0 a0_1).bind fun t417 => (if t417 = true then ((familycheckref01_Small.f kj4 l2_0 a2_1).bind fun t418 => (familycheckref01_Combine.j1 kj4 a1 a3 (!t418) l0_0 a0_1 l2_0 a2_1)) else (familycheckref01_Combine.j1 kj4 a1 a3 true l0_0 a0_1 l2_0 a2_1))) = some (r1, r2, r3) := by rw [if_neg (show ¬ (false = true) by decide)] at H; exact H
        clear H
        have H := H1
        clear H1
        have HC38 := Aside0.mk H
        clear H
        go_upto_region 3 with (fail)
        go_cut [42] (fun v42 wc => ∃ (kq : Nat) (x42_37 : Bool), v42 = .bool x42_37 ∧ Aside0 (familycheckref01_Combine.j1 kq a1 a3 x42_37 l0_0 a0_1 l2_0 a2_1 = some (r1, r2, r3)) ∧ Aside0 (kq ≤ kj4) ∧ Aside0 (wc.heap[gb412]? = some (.cells #[(.slice A0_0 l0_0.length c0_0), .int .i64 a0_1] 33 (0, 0))) ∧ Aside0 (wc.heap[gb413]? = some (.cells #[(.slice A2_0 l2_0.length c2_0), .int .i64 a2_1] 33 (0, 0))) ∧ Aside0 (wc.heap[gb414]? = some (.cells #[(.slice none 0 0), .int .i64 0] 33 (0, 0))) ∧ Aside0 (Below w.heap.size w wc))
        case first =>
          have H := HC38.out
          clear HC38
          replace H := Option.bind_eq_some_iff.mp H
          obtain ⟨t417, A390, H⟩ := H
          replace H : (if t417 = true then ((familycheckref01_Small.f kj4 l2_0 a2_1).bind fun t418 => (familycheckref01_Combine.j1 kj4 a1 a3 (!t418) l0_0 a0_1 l2_0 a2_1)) else (familycheckref01_Combine.j1 kj4 a1 a3 true l0_0 a0_1 l2_0 a2_1)) = some (r1, r2, r3) := H
          have A39 := Aside0.mk A390
          clear A390
          by_cases c40 : t417 = true
          · subst c40
            have H1 : ((familycheckref01_Small.f kj4 l2_0 a2_1).bind fun t418 => (familycheckref01_Combine.j1 kj4 a1 a3 (!t418) l0_0 a0_1 l2_0 a2_1)) = some (r1, r2, r3) := by rw [if_pos rfl] at H; exact H
            clear H
            have H := H1
            clear H1
            replace H := Option.bind_eq_some_iff.mp H
            obtain ⟨t418, A410, H⟩ := H
            replace H : (familycheckref01_Combine.j1 kj4 a1 a3 (!t418) l0_0 a0_1 l2_0 a2_1) = some (r1, r2, r3) := H
            have A41 := Aside0.mk A410
            clear A410
            have H' := Aside0.mk H
            clear H
            have hnb42 := NB412_413.out
            have hnc42 := NB413_412.out
            have hnb43 := NB412_414.out
            have hnc43 := NB414_412.out
            have hcz44_0 : wc.cell? ⟨gb412, 0, none⟩ = some (.slice A0_0 l0_0.length c0_0) := (blk_cell BK412.out 0).trans rfl
            have hcz44_1 : wc.cell? ⟨gb412, 1, none⟩ = some (.int .i64 a0_1) := (blk_cell BK412.out 1).trans rfl
            have hfz44_0 := blk_frozen BK412.out 0
            have hfz44_1 := blk_frozen BK412.out 1
            go_wp2_with (first | ((with_reducible refine gate_callee (f := 51) rfl ?_); refine goesL_ (some 36) rfl rfl Tryd.func51 (by kernel_rfl) rfl #[.agg #[.slice A0_0 l0_0.length c0_0, .int .i64 a0_1]] rfl (by (try simp only [List.map_toArray, List.map_cons, List.map_nil]); first | done | rfl | (simp only [List.length_drop, List.length_take]; rfl)) ?_; (with_reducible refine (familycheckref01_Small.calls kj4 _ _ l0_0 a0_1 true _ ?side1 ?side2 A39.out).mono ?_); (case side1 => repeat (first | exact (Kd.C_below HR0_0.out HB.out) | (with_reducible refine Kd.C_alloc ?_ _) | (with_reducible refine Kd.C_drewN ?_ _) | (with_reducible refine Kd.C_drew ?_))); (case side2 => exact HC0_0.out); rintro e w45 ⟨rfl, hb⟩; refine ⟨_, rfl, ?_⟩; have n0_ := Aside0.mk (blk_below (g := gb412) (o := .cells #[.slice A0_0 l0_0.length c0_0, .int .i64 a0_1] 33 (0, 0)) (by (with_reducible repeat (first | refine blk_drewN ?_ _ | refine blk_drew ?_ | refine blk_alloc ?_ _)); exact BK412.out) hb); have n1_ := Aside0.mk (blk_below (g := gb413) (o := .cells #[.slice A2_0 l2_0.length c2_0, .int .i64 a2_1] 33 (0, 0)) (by (with_reducible repeat (first | refine blk_drewN ?_ _ | refine blk_drew ?_ | refine blk_alloc ?_ _)); exact BK413.out) hb); have n2_ := Aside0.mk (blk_below (g := gb414) (o := .cells #[.slice none 0 0, .int .i64 0] 33 (0, 0)) (by (with_reducible repeat (first | refine blk_drewN ?_ _ | refine blk_drew ?_ | refine blk_alloc ?_ _)); exact BK414.out) hb); have n3_ := Aside0.mk (below_step (by repeat (first | (with_reducible first | exact HB.out | apply below_alloc | apply pw_below_drewN | apply below_drew1 | refine below_set ?_ GE412.out | refine below_set ?_ GE413.out | refine below_set ?_ GE414.out) | exact HB.out)) hb); clear BK412; clear BK413; clear BK414; clear HB; have BK412 := n0_; have BK413 := n1_; have BK414 := n2_; have HB := n3_; clear n0_ n1_ n2_ n3_; (try clear hb); (try clear hb2); (try clear hk); (try clear hi); have hnb46 := NB413_414.out; have hnc46 := NB414_413.out; have hcz47_0 : w45.cell? ⟨gb413, 0, none⟩ = some (.slice A2_0 l2_0.length c2_0) := (blk_cell BK413.out 0).trans rfl; have hcz47_1 : w45.cell? ⟨gb413, 1, none⟩ = some (.int .i64 a2_1) := (blk_cell BK413.out 1).trans rfl; have hfz47_0 := blk_frozen BK413.out 0; have hfz47_1 := blk_frozen BK413.out 1) | (go_at_call 51; (with_reducible refine (familycheckref01_Small.calls kj4 _ _ l2_0 a2_1 t418 _ ?side1 ?side2 A41.out).mono ?_); (case side1 => repeat (first | exact (Kd.C_below HR2_0.out HB.out) | (with_reducible refine Kd.C_alloc ?_ _) | (with_reducible refine Kd.C_drewN ?_ _) | (with_reducible refine Kd.C_drew ?_))); (case side2 => exact HC2_0.out); rintro e w48 ⟨rfl, hb⟩; have n0_ := Aside0.mk (blk_below (g := gb412) (o := .cells #[.slice A0_0 l0_0.length c0_0, .int .i64 a0_1] 33 (0, 0)) (by (with_reducible repeat (first | refine blk_drewN ?_ _ | refine blk_drew ?_ | refine blk_alloc ?_ _)); exact BK412.out) hb); have n1_ := Aside0.mk (blk_below (g := gb413) (o := .cells #[.slice A2_0 l2_0.length c2_0, .int .i64 a2_1] 33 (0, 0)) (by (with_reducible repeat (first | refine blk_drewN ?_ _ | refine blk_drew ?_ | refine blk_alloc ?_ _)); exact BK413.out) hb); have n2_ := Aside0.mk (blk_below (g := gb414) (o := .cells #[.slice none 0 0, .int .i64 0] 33 (0, 0)) (by (with_reducible repeat (first | refine blk_drewN ?_ _ | refine blk_drew ?_ | refine blk_alloc ?_ _)); exact BK414.out) hb); have n3_ := Aside0.mk (below_step (by repeat (first | (with_reducible first | exact HB.out | apply below_alloc | apply pw_below_drewN | apply below_drew1 | refine below_set ?_ GE412.out | refine below_set ?_ GE413.out | refine below_set ?_ GE414.out) | exact HB.out)) hb); clear BK412; clear BK413; clear BK414; clear HB; have BK412 := n0_; have BK413 := n1_; have BK414 := n2_; have HB := n3_; clear n0_ n1_ n2_ n3_; (try clear hb); (try clear hb2); (try clear hk); (try clear hi)))
            go_meet
            case rel => exact ⟨_, (!t418), (by first | rfl | (simp; done) | (simp [*]; done)), H', ⟨by have := HJ4.out; first | omega | exact Nat.le_refl _⟩, ⟨by (with_reducible repeat (first | refine blk_drewN ?_ _ | refine blk_drew ?_ | refine blk_alloc ?_ _)); exact BK412.out⟩, ⟨by (with_reducible repeat (first | refine blk_drewN ?_ _ | refine blk_drew ?_ | refine blk_alloc ?_ _)); exact BK413.out⟩, ⟨by (with_reducible repeat (first | refine blk_drewN ?_ _ | refine blk_drew ?_ | refine blk_alloc ?_ _)); exact BK414.out⟩, ⟨by repeat (first | (with_reducible first | exact HB.out | apply below_alloc | apply pw_below_drewN | apply below_drew1 | refine below_set ?_ GE412.out | refine below_set ?_ GE413.out | refine below_set ?_ GE414.out) | exact HB.out)⟩⟩
          · replace c40 := Bool.eq_false_iff.mpr c40
            subst c40
            have H1 : (familycheckref01_Combine.j1 kj4 a1 a3 true l0_0 a0_1 l2_0 a2_1) = some (r1, r2, r3) := by rw [if_neg (show ¬ (false = true) by decide)] at H; exact H
            clear H
            have H := H1
            clear H1
            have H' := Aside0.mk H
            clear H
            have hnb49 := NB412_413.out
            have hnc49 := NB413_412.out
            have hnb50 := NB412_414.out
            have hnc50 := NB414_412.out
            have hcz51_0 : wc.cell? ⟨gb412, 0, none⟩ = some (.slice A0_0 l0_0.length c0_0) := (blk_cell BK412.out 0).trans rfl
            have hcz51_1 : wc.cell? ⟨gb412, 1, none⟩ = some (.int .i64 a0_1) := (blk_cell BK412.out 1).trans rfl
            have hfz51_0 := blk_frozen BK412.out 0
            have hfz51_1 := blk_frozen BK412.out 1
            go_wp2_with (first | ((with_reducible refine gate_callee (f := 51) rfl ?_); refine goesL_ (some 36) rfl rfl Tryd.func51 (by kernel_rfl) rfl #[.agg #[.slice A0_0 l0_0.length c0_0, .int .i64 a0_1]] rfl (by (try simp only [List.map_toArray, List.map_cons, List.map_nil]); first | done | rfl | (simp only [List.length_drop, List.length_take]; rfl)) ?_; (with_reducible refine (familycheckref01_Small.calls kj4 _ _ l0_0 a0_1 false _ ?side1 ?side2 A39.out).mono ?_); (case side1 => repeat (first | exact (Kd.C_below HR0_0.out HB.out) | (with_reducible refine Kd.C_alloc ?_ _) | (with_reducible refine Kd.C_drewN ?_ _) | (with_reducible refine Kd.C_drew ?_))); (case side2 => exact HC0_0.out); rintro e w52 ⟨rfl, hb⟩; refine ⟨_, rfl, ?_⟩; have n0_ := Aside0.mk (blk_below (g := gb412) (o := .cells #[.slice A0_0 l0_0.length c0_0, .int .i64 a0_1] 33 (0, 0)) (by (with_reducible repeat (first | refine blk_drewN ?_ _ | refine blk_drew ?_ | refine blk_alloc ?_ _)); exact BK412.out) hb); have n1_ := Aside0.mk (blk_below (g := gb413) (o := .cells #[.slice A2_0 l2_0.length c2_0, .int .i64 a2_1] 33 (0, 0)) (by (with_reducible repeat (first | refine blk_drewN ?_ _ | refine blk_drew ?_ | refine blk_alloc ?_ _)); exact BK413.out) hb); have n2_ := Aside0.mk (blk_below (g := gb414) (o := .cells #[.slice none 0 0, .int .i64 0] 33 (0, 0)) (by (with_reducible repeat (first | refine blk_drewN ?_ _ | refine blk_drew ?_ | refine blk_alloc ?_ _)); exact BK414.out) hb); have n3_ := Aside0.mk (below_step (by repeat (first | (with_reducible first | exact HB.out | apply below_alloc | apply pw_below_drewN | apply below_drew1 | refine below_set ?_ GE412.out | refine below_set ?_ GE413.out | refine below_set ?_ GE414.out) | exact HB.out)) hb); clear BK412; clear BK413; clear BK414; clear HB; have BK412 := n0_; have BK413 := n1_; have BK414 := n2_; have HB := n3_; clear n0_ n1_ n2_ n3_; (try clear hb); (try clear hb2); (try clear hk); (try clear hi)))
            go_meet
            case rel => exact ⟨_, (true), (by first | rfl | (simp; done) | (simp [*]; done)), H', ⟨by have := HJ4.out; first | omega | exact Nat.le_refl _⟩, ⟨by (with_reducible repeat (first | refine blk_drewN ?_ _ | refine blk_drew ?_ | refine blk_alloc ?_ _)); exact BK412.out⟩, ⟨by (with_reducible repeat (first | refine blk_drewN ?_ _ | refine blk_drew ?_ | refine blk_alloc ?_ _)); exact BK413.out⟩, ⟨by (with_reducible repeat (first | refine blk_drewN ?_ _ | refine blk_drew ?_ | refine blk_alloc ?_ _)); exact BK414.out⟩, ⟨by repeat (first | (with_reducible first | exact HB.out | apply below_alloc | apply pw_below_drewN | apply below_drew1 | refine below_set ?_ GE412.out | refine below_set ?_ GE413.out | refine below_set ?_ GE414.out) | exact HB.out)⟩⟩
        case rest =>
          clear HC38
          try clear c1
          try clear c2
          try clear p2
          try clear c3
          try clear c4
          try clear c5
          try clear c9
          try clear c9b0
          try clear c9b1
          try clear c9b2
          try clear c10
          try clear c10b0
          try clear c10b1
          try clear c11
          try clear c12
          try clear c14
          try clear c17
          try clear c19
          try clear c20
          try clear c22
          try clear c24
          try clear c25
          try clear c27
          try clear c29
          try clear c30
          try clear c32
          try clear c34
          try clear c35
          try clear c36
          try clear c40
          try clear c42
          try clear c43
          try clear c46
          try clear c49
          try clear c50
          try clear c51
          try clear hcz13_0
          try clear hcz13_1
          try clear hcz15_0
          try clear hcz15_1
          try clear hcz21_0
          try clear hcz21_1
          try clear hcz23_0
          try clear hcz23_1
          try clear hcz26_0
          try clear hcz26_1
          try clear hcz28_0
          try clear hcz28_1
          try clear hcz31_0
          try clear hcz31_1
          try clear hcz33_0
          try clear hcz33_1
          try clear hcz37_0
          try clear hcz37_1
          try clear hcz44_0
          try clear hcz44_1
          try clear hcz47_0
          try clear hcz47_1
          try clear hcz51_0
          try clear hcz51_1
          try clear hfz13_0
          try clear hfz13_1
          try clear hfz15_0
          try clear hfz15_1
          try clear hfz21_0
          try clear hfz21_1
          try clear hfz23_0
          try clear hfz23_1
          try clear hfz26_0
          try clear hfz26_1
          try clear hfz28_0
          try clear hfz28_1
          try clear hfz31_0
          try clear hfz31_1
          try clear hfz33_0
          try clear hfz33_1
          try clear hfz37_0
          try clear hfz37_1
          try clear hfz44_0
          try clear hfz44_1
          try clear hfz47_0
          try clear hfz47_1
          try clear hfz51_0
          try clear hfz51_1
          try clear p2
          obtain ⟨kq, x42_37, rfl, HA, HJ37, BK412, BK413, BK414, HB⟩ := hcut
          cases kq with
          | zero => exact absurd HA.out (by simp [familycheckref01_Combine.j1])
          | succ kj37 =>
            have H := HA.out
            clear HA
            simp only [familycheckref01_Combine.j1] at H
            by_cases c53 : x42_37 = true
            · subst c53
              have H1 : (some (([] : List Int), 0, 4)) = some (r1, r2, r3) := by rw [if_pos rfl] at H; exact H
              clear H
              have H := H1
              clear H1
              simp only [Option.some.injEq, Prod.mk.injEq] at H
              obtain ⟨rfl, rfl, rfl⟩ := H
              have hnb54 := NB414_412.out
              have hnc54 := NB412_414.out
              have hnb55 := NB414_413.out
              have hnc55 := NB413_414.out
              have hcz56_0 : wc.cell? ⟨gb414, 0, none⟩ = some (.slice none 0 0) := (blk_cell BK414.out 0).trans rfl
              have hcz56_1 : wc.cell? ⟨gb414, 1, none⟩ = some (.int .i64 0) := (blk_cell BK414.out 1).trans rfl
              have hfz56_0 := blk_frozen BK414.out 0
              have hfz56_1 := blk_frozen BK414.out 1
              go_wp2
              refine bodyPost_ret (results_ct rfl _ _ gb414 33 #[.slice none 0 0, .int .i64 0] (0, 0) _ rfl (by (with_reducible repeat (first | refine blk_drewN ?_ _ | refine blk_drew ?_ | refine blk_alloc ?_ _)); refine blk_put (cs := #[.slice none 0 0, .int .i64 0]) ?_ 1 _ rfl; (with_reducible repeat (first | refine blk_drewN ?_ _ | refine blk_drew ?_ | refine blk_alloc ?_ _)); refine blk_put (cs := #[.slice none 0 0, .int .i64 0]) ?_ 0 _ rfl; (with_reducible repeat (first | refine blk_drewN ?_ _ | refine blk_drew ?_ | refine blk_alloc ?_ _)); exact BK414.out) Tryd.underlying33 rfl (by kernel_rfl)) rfl ?_
              exact ⟨_, by first | rfl | (simp [errW_none, errW_some] <;> rfl) | (simp [*, errW_none, errW_some] <;> rfl), by first | exact Kd.R_nil _ _ _ _ _ | exact Kd.N_nil _ _ _ _ _ | exact Kd.V_nil _ _ _ _ _ | exact Kd.Q_nil _ _ _ _ _ | exact Kd.S_nil _ _ _ _ _, by repeat (first | (with_reducible first | exact HB.out | apply below_alloc | apply pw_below_drewN | apply below_drew1 | refine below_set ?_ GE412.out | refine below_set ?_ GE413.out | refine below_set ?_ GE414.out) | exact HB.out)⟩
            · replace c53 := Bool.eq_false_iff.mpr c53
              subst c53
              have H1 : ((familycheckref01_mix.f kj37 l0_0 a0_1 a1 l2_0 a2_1 a3).bind fun bt419 => ((familycheckref01_Small.f kj37 bt419.1 bt419.2).bind fun t424 => (if t424 = true then (some (bt419.1, bt419.2, 0)) else (some (([] : List Int), 0, 4))))) = some (r1, r2, r3) := by rw [if_neg (show ¬ (false = true) by decide)] at H; exact H
              clear H
              have H := H1
              clear H1
              replace H := Option.bind_eq_some_iff.mp H
              obtain ⟨⟨t419, t422⟩, A570, H⟩ := H
              replace H : ((familycheckref01_Small.f kj37 t419 t422).bind fun t424 => (if t424 = true then (some (t419, t422, 0)) else (some (([] : List Int), 0, 4)))) = some (r1, r2, r3) := H
              have A57 := Aside0.mk A570
              clear A570
              replace H := Option.bind_eq_some_iff.mp H
              obtain ⟨t424, A580, H⟩ := H
              replace H : (if t424 = true then (some (t419, t422, 0)) else (some (([] : List Int), 0, 4))) = some (r1, r2, r3) := H
              have A58 := Aside0.mk A580
              clear A580
              by_cases c59 : t424 = true
              · subst c59
                have H1 : (some (t419, t422, 0)) = some (r1, r2, r3) := by rw [if_pos rfl] at H; exact H
                clear H
                have H := H1
                clear H1
                simp only [Option.some.injEq, Prod.mk.injEq] at H
                obtain ⟨rfl, rfl, rfl⟩ := H
                have hnb60 := NB412_413.out
                have hnc60 := NB413_412.out
                have hnb61 := NB412_414.out
                have hnc61 := NB414_412.out
                have hcz62_0 : wc.cell? ⟨gb412, 0, none⟩ = some (.slice A0_0 l0_0.length c0_0) := (blk_cell BK412.out 0).trans rfl
                have hcz62_1 : wc.cell? ⟨gb412, 1, none⟩ = some (.int .i64 a0_1) := (blk_cell BK412.out 1).trans rfl
                have hfz62_0 := blk_frozen BK412.out 0
                have hfz62_1 := blk_frozen BK412.out 1
                have hnb63 := NB413_414.out
                have hnc63 := NB414_413.out
                have hcz64_0 : wc.cell? ⟨gb413, 0, none⟩ = some (.slice A2_0 l2_0.length c2_0) := (blk_cell BK413.out 0).trans rfl
                have hcz64_1 : wc.cell? ⟨gb413, 1, none⟩ = some (.int .i64 a2_1) := (blk_cell BK413.out 1).trans rfl
                have hfz64_0 := blk_frozen BK413.out 0
                have hfz64_1 := blk_frozen BK413.out 1
                go_wp2_with (first | ((with_reducible refine gate_callee (f := 68) rfl ?_); refine goesL_ (some 48) rfl rfl Tryd.func68 (by kernel_rfl) rfl #[.agg #[.slice A0_0 l0_0.length c0_0, .int .i64 a0_1], .int .i64 a1, .agg #[.slice A2_0 l2_0.length c2_0, .int .i64 a2_1], .int .i64 a3] rfl (by (try simp only [List.map_toArray, List.map_cons, List.map_nil]); first | done | rfl | (simp only [List.length_drop, List.length_take]; rfl)) ?_; (with_reducible refine (familycheckref01_mix.calls kj37 _ _ l0_0 a0_1 a1 _ _ l2_0 a2_1 a3 t419 t422 _ ?side1 ?side2 ?side3 ?side4 A57.out).mono ?_); (case side1 => repeat (first | exact (Kd.C_below HR0_0.out HB.out) | (with_reducible refine Kd.C_alloc ?_ _) | (with_reducible refine Kd.C_drewN ?_ _) | (with_reducible refine Kd.C_drew ?_))); (case side2 => exact HC0_0.out); (case side3 => repeat (first | exact (Kd.C_below HR2_0.out HB.out) | (with_reducible refine Kd.C_alloc ?_ _) | (with_reducible refine Kd.C_drewN ?_ _) | (with_reducible refine Kd.C_drew ?_))); (case side4 => exact HC2_0.out); rintro e w65 ⟨v420, rfl, ho0, hb⟩; refine ⟨_, rfl, ?_⟩; have n0_ := Aside0.mk (Kd.R_lower ho0 (below_size (by repeat (first | (with_reducible first | exact HB.out | apply below_alloc | apply pw_below_drewN | apply below_drew1 | refine below_set ?_ GE412.out | refine below_set ?_ GE413.out | refine below_set ?_ GE414.out) | exact HB.out)))); have n1_ := Aside0.mk (blk_below (g := gb412) (o := .cells #[.slice A0_0 l0_0.length c0_0, .int .i64 a0_1] 33 (0, 0)) (by (with_reducible repeat (first | refine blk_drewN ?_ _ | refine blk_drew ?_ | refine blk_alloc ?_ _)); exact BK412.out) hb); have n2_ := Aside0.mk (blk_below (g := gb413) (o := .cells #[.slice A2_0 l2_0.length c2_0, .int .i64 a2_1] 33 (0, 0)) (by (with_reducible repeat (first | refine blk_drewN ?_ _ | refine blk_drew ?_ | refine blk_alloc ?_ _)); exact BK413.out) hb); have n3_ := Aside0.mk (blk_below (g := gb414) (o := .cells #[.slice none 0 0, .int .i64 0] 33 (0, 0)) (by (with_reducible repeat (first | refine blk_drewN ?_ _ | refine blk_drew ?_ | refine blk_alloc ?_ _)); exact BK414.out) hb); have n4_ := Aside0.mk (below_step (by repeat (first | (with_reducible first | exact HB.out | apply below_alloc | apply pw_below_drewN | apply below_drew1 | refine below_set ?_ GE412.out | refine below_set ?_ GE413.out | refine below_set ?_ GE414.out) | exact HB.out)) hb); clear BK412; clear BK413; clear BK414; clear HB; have HO421 := n0_; have BK412 := n1_; have BK413 := n2_; have BK414 := n3_; have HB := n4_; clear n0_ n1_ n2_ n3_ n4_; (try clear hb); (try clear hb2); (try clear hk); (try clear hi); (try clear ho0)) | ((with_reducible refine gate_dst (N := 10) rfl ?_); (try (refine gate_guard (by rfl) ?_; dsimp only)); refine box_event ?hg (N := 10) ?hd (cs := #[.slice none 0 0, .int .i64 0]) (t := 33) ?hr ?_; (case hd => rfl); (case hg => rfl); (case hr => first | (go_simp; done) | (go_simp; rfl)); intro gb423 hg w66 hbox hb; have n0_ := Aside0.mk (Kd.R_below (by (with_reducible repeat (first | apply Kd.R_alloc | apply Kd.R_drewN | apply Kd.R_drew)); exact HO421.out) hb); have n1_ := Aside0.mk (blk_below (g := gb412) (o := .cells #[.slice A0_0 l0_0.length c0_0, .int .i64 a0_1] 33 (0, 0)) (by (with_reducible repeat (first | refine blk_drewN ?_ _ | refine blk_drew ?_ | refine blk_alloc ?_ _)); exact BK412.out) hb); have n2_ := Aside0.mk (blk_below (g := gb413) (o := .cells #[.slice A2_0 l2_0.length c2_0, .int .i64 a2_1] 33 (0, 0)) (by (with_reducible repeat (first | refine blk_drewN ?_ _ | refine blk_drew ?_ | refine blk_alloc ?_ _)); exact BK413.out) hb); have n3_ := Aside0.mk (blk_below (g := gb414) (o := .cells #[.slice none 0 0, .int .i64 0] 33 (0, 0)) (by (with_reducible repeat (first | refine blk_drewN ?_ _ | refine blk_drew ?_ | refine blk_alloc ?_ _)); exact BK414.out) hb); have n4_ := Aside0.mk (below_step (by repeat (first | (with_reducible first | exact HB.out | apply below_alloc | apply pw_below_drewN | apply below_drew1 | refine below_set ?_ GE412.out | refine below_set ?_ GE413.out | refine below_set ?_ GE414.out) | exact HB.out)) hb); have n5_ := Aside0.mk (hbox); have n6_ := Aside0.mk ((by rw [hg]; exact (below_size (by repeat (first | (with_reducible first | exact HB.out | apply below_alloc | apply pw_below_drewN | apply below_drew1 | refine below_set ?_ GE412.out | refine below_set ?_ GE413.out | refine below_set ?_ GE414.out) | exact HB.out))) : w.heap.size ≤ gb423)); have n7_ := Aside0.mk ((by rw [hg]; exact (below_size (by repeat (first | (with_reducible first | exact HB.out | apply below_alloc | apply pw_below_drewN | apply below_drew1 | refine below_set ?_ GE412.out | refine below_set ?_ GE413.out | refine below_set ?_ GE414.out) | exact HB.out))) : w.heap.size ≤ gb423)); have n8_ := Aside0.mk ((by rw [hg]; exact Nat.ne_of_lt (blk_lt (g := gb412) (o := .cells #[.slice A0_0 l0_0.length c0_0, .int .i64 a0_1] 33 (0, 0)) (by (with_reducible repeat (first | refine blk_drewN ?_ _ | refine blk_drew ?_ | refine blk_alloc ?_ _)); exact BK412.out)) : gb412 ≠ gb423)); have n9_ := Aside0.mk ((by rw [hg]; exact Nat.ne_of_gt (blk_lt (g := gb412) (o := .cells #[.slice A0_0 l0_0.length c0_0, .int .i64 a0_1] 33 (0, 0)) (by (with_reducible repeat (first | refine blk_drewN ?_ _ | refine blk_drew ?_ | refine blk_alloc ?_ _)); exact BK412.out)) : gb423 ≠ gb412)); have n10_ := Aside0.mk ((by rw [hg]; exact Nat.ne_of_lt (blk_lt (g := gb413) (o := .cells #[.slice A2_0 l2_0.length c2_0, .int .i64 a2_1] 33 (0, 0)) (by (with_reducible repeat (first | refine blk_drewN ?_ _ | refine blk_drew ?_ | refine blk_alloc ?_ _)); exact BK413.out)) : gb413 ≠ gb423)); have n11_ := Aside0.mk ((by rw [hg]; exact Nat.ne_of_gt (blk_lt (g := gb413) (o := .cells #[.slice A2_0 l2_0.length c2_0, .int .i64 a2_1] 33 (0, 0)) (by (with_reducible repeat (first | refine blk_drewN ?_ _ | refine blk_drew ?_ | refine blk_alloc ?_ _)); exact BK413.out)) : gb423 ≠ gb413)); have n12_ := Aside0.mk ((by rw [hg]; exact Nat.ne_of_lt (blk_lt (g := gb414) (o := .cells #[.slice none 0 0, .int .i64 0] 33 (0, 0)) (by (with_reducible repeat (first | refine blk_drewN ?_ _ | refine blk_drew ?_ | refine blk_alloc ?_ _)); exact BK414.out)) : gb414 ≠ gb423)); have n13_ := Aside0.mk ((by rw [hg]; exact Nat.ne_of_gt (blk_lt (g := gb414) (o := .cells #[.slice none 0 0, .int .i64 0] 33 (0, 0)) (by (with_reducible repeat (first | refine blk_drewN ?_ _ | refine blk_drew ?_ | refine blk_alloc ?_ _)); exact BK414.out)) : gb423 ≠ gb414)); clear HO421; clear BK412; clear BK413; clear BK414; clear HB; have HO421 := n0_; have BK412 := n1_; have BK413 := n2_; have BK414 := n3_; have HB := n4_; have BK423 := n5_; have GW423 := n6_; have GE423 := n7_; have NB412_423 := n8_; have NB423_412 := n9_; have NB413_423 := n10_; have NB423_413 := n11_; have NB414_423 := n12_; have NB423_414 := n13_; clear n0_ n1_ n2_ n3_ n4_ n5_ n6_ n7_ n8_ n9_ n10_ n11_ n12_ n13_; clear hb hbox hg; obtain ⟨Ao67, co67, eo67⟩ := Kd.R_slice HO421.out; subst eo67; have hnb68 := NB423_412.out; have hnc68 := NB412_423.out; have hnb69 := NB423_413.out; have hnc69 := NB413_423.out; have hnb70 := NB423_414.out; have hnc70 := NB414_423.out; have hcz71_0 : w66.cell? ⟨gb423, 0, none⟩ = some (.slice none 0 0) := (blk_cell BK423.out 0).trans rfl; have hcz71_1 : w66.cell? ⟨gb423, 1, none⟩ = some (.int .i64 0) := (blk_cell BK423.out 1).trans rfl; have hfz71_0 := blk_frozen BK423.out 0; have hfz71_1 := blk_frozen BK423.out 1) | ((with_reducible refine gate_callee (f := 51) rfl ?_); refine goesL_ (some 50) rfl rfl Tryd.func51 (by kernel_rfl) rfl #[.agg #[.slice Ao67 t419.length co67, .int .i64 t422]] rfl (by (try simp only [List.map_toArray, List.map_cons, List.map_nil]); first | done | rfl | (simp only [List.length_drop, List.length_take]; rfl)) ?_; (with_reducible refine (familycheckref01_Small.calls kj37 _ _ t419 t422 true _ ?side1 ?side2 A58.out).mono ?_); (case side1 => refine (Kd.R_reads' (e := 3) (base := w.heap.size) (ok := fun k_ => True) (n := t419.length) (c := co67) ?_).2.2; exact (by (with_reducible repeat (first | apply Kd.R_alloc | apply Kd.R_drewN | apply Kd.R_drew)); exact (Kd.R_mono (Kd.R_far (p := ⟨gb423, 1, none⟩) (Kd.R_far (p := ⟨gb423, 0, none⟩) (Kd.R_types HO421.out BK423.out (by decide)) (fun _ hk => hk.2) (.slice Ao67 t419.length co67)) (fun _ hk => hk.2) (.int .i64 t422)) (fun _ h_ => h_.1)))); (case side2 => exact (Kd.R_reads' HO421.out).2.1); rintro e w72 ⟨rfl, hb⟩; refine ⟨_, rfl, ?_⟩; have n0_ := Aside0.mk (Kd.R_below (by (with_reducible repeat (first | apply Kd.R_alloc | apply Kd.R_drewN | apply Kd.R_drew)); exact (Kd.R_mono (Kd.R_far (p := ⟨gb423, 1, none⟩) (Kd.R_far (p := ⟨gb423, 0, none⟩) (Kd.R_types HO421.out BK423.out (by decide)) (fun _ hk => hk.2) (.slice Ao67 t419.length co67)) (fun _ hk => hk.2) (.int .i64 t422)) (fun _ h_ => h_.1))) hb); have n1_ := Aside0.mk (blk_below (g := gb412) (o := .cells #[.slice A0_0 l0_0.length c0_0, .int .i64 a0_1] 33 (0, 0)) (by (with_reducible repeat (first | refine blk_drewN ?_ _ | refine blk_drew ?_ | refine blk_alloc ?_ _)); refine blk_far ?_ NB412_423.out _; (with_reducible repeat (first | refine blk_drewN ?_ _ | refine blk_drew ?_ | refine blk_alloc ?_ _)); refine blk_far ?_ NB412_423.out _; (with_reducible repeat (first | refine blk_drewN ?_ _ | refine blk_drew ?_ | refine blk_alloc ?_ _)); exact BK412.out) hb); have n2_ := Aside0.mk (blk_below (g := gb413) (o := .cells #[.slice A2_0 l2_0.length c2_0, .int .i64 a2_1] 33 (0, 0)) (by (with_reducible repeat (first | refine blk_drewN ?_ _ | refine blk_drew ?_ | refine blk_alloc ?_ _)); refine blk_far ?_ NB413_423.out _; (with_reducible repeat (first | refine blk_drewN ?_ _ | refine blk_drew ?_ | refine blk_alloc ?_ _)); refine blk_far ?_ NB413_423.out _; (with_reducible repeat (first | refine blk_drewN ?_ _ | refine blk_drew ?_ | refine blk_alloc ?_ _)); exact BK413.out) hb); have n3_ := Aside0.mk (blk_below (g := gb414) (o := .cells #[.slice none 0 0, .int .i64 0] 33 (0, 0)) (by (with_reducible repeat (first | refine blk_drewN ?_ _ | refine blk_drew ?_ | refine blk_alloc ?_ _)); refine blk_far ?_ NB414_423.out _; (with_reducible repeat (first | refine blk_drewN ?_ _ | refine blk_drew ?_ | refine blk_alloc ?_ _)); refine blk_far ?_ NB414_423.out _; (with_reducible repeat (first | refine blk_drewN ?_ _ | refine blk_drew ?_ | refine blk_alloc ?_ _)); exact BK414.out) hb); have n4_ := Aside0.mk (blk_below (g := gb423) (o := .cells #[.slice Ao67 t419.length co67, .int .i64 t422] 33 (0, 0)) (by (with_reducible repeat (first | refine blk_drewN ?_ _ | refine blk_drew ?_ | refine blk_alloc ?_ _)); refine blk_put (cs := #[.slice Ao67 t419.length co67, .int .i64 0]) ?_ 1 _ rfl; (with_reducible repeat (first | refine blk_drewN ?_ _ | refine blk_drew ?_ | refine blk_alloc ?_ _)); refine blk_put (cs := #[.slice none 0 0, .int .i64 0]) ?_ 0 _ rfl; (with_reducible repeat (first | refine blk_drewN ?_ _ | refine blk_drew ?_ | refine blk_alloc ?_ _)); exact BK423.out) hb); have n5_ := Aside0.mk (below_step (by repeat (first | (with_reducible first | exact HB.out | apply below_alloc | apply pw_below_drewN | apply below_drew1 | refine below_set ?_ GE412.out | refine below_set ?_ GE413.out | refine below_set ?_ GE414.out | refine below_set ?_ GE423.out) | exact HB.out)) hb); clear HO421; clear BK412; clear BK413; clear BK414; clear BK423; clear HB; have HO421 := n0_; have BK412 := n1_; have BK413 := n2_; have BK414 := n3_; have BK423 := n4_; have HB := n5_; clear n0_ n1_ n2_ n3_ n4_ n5_; (try clear hb); (try clear hb2); (try clear hk); (try clear hi); have hcz73_0 : w72.cell? ⟨gb423, 0, none⟩ = some (.slice Ao67 t419.length co67) := (blk_cell BK423.out 0).trans rfl; have hcz73_1 : w72.cell? ⟨gb423, 1, none⟩ = some (.int .i64 t422) := (blk_cell BK423.out 1).trans rfl; have hfz73_0 := blk_frozen BK423.out 0; have hfz73_1 := blk_frozen BK423.out 1; have hcz74_0 : w72.cell? ⟨gb414, 0, none⟩ = some (.slice none 0 0) := (blk_cell BK414.out 0).trans rfl; have hcz74_1 : w72.cell? ⟨gb414, 1, none⟩ = some (.int .i64 0) := (blk_cell BK414.out 1).trans rfl; have hfz74_0 := blk_frozen BK414.out 0; have hfz74_1 := blk_frozen BK414.out 1))
                refine bodyPost_ret (results_ct rfl _ _ gb414 33 #[.slice Ao67 t419.length co67, .int .i64 t422] (0, 0) _ rfl (by (with_reducible repeat (first | refine blk_drewN ?_ _ | refine blk_drew ?_ | refine blk_alloc ?_ _)); refine blk_put (cs := #[.slice Ao67 t419.length co67, .int .i64 0]) ?_ 1 _ rfl; (with_reducible repeat (first | refine blk_drewN ?_ _ | refine blk_drew ?_ | refine blk_alloc ?_ _)); refine blk_put (cs := #[.slice none 0 0, .int .i64 0]) ?_ 0 _ rfl; (with_reducible repeat (first | refine blk_drewN ?_ _ | refine blk_drew ?_ | refine blk_alloc ?_ _)); exact BK414.out) Tryd.underlying33 rfl (by kernel_rfl)) rfl ?_
                exact ⟨_, by first | rfl | (simp [errW_none, errW_some] <;> rfl) | (simp [*, errW_none, errW_some] <;> rfl), by (with_reducible repeat (first | apply Kd.R_alloc | apply Kd.R_drewN | apply Kd.R_drew)); exact Kd.R_mono (Kd.R_far (p := ⟨gb414, 1, none⟩) (Kd.R_far (p := ⟨gb414, 0, none⟩) (Kd.R_types HO421.out BK414.out (by decide)) (fun _ hk => hk.2) (.slice Ao67 t419.length co67)) (fun _ hk => hk.2) (.int .i64 t422)) (fun _ hk => trivial), by repeat (first | (with_reducible first | exact HB.out | apply below_alloc | apply pw_below_drewN | apply below_drew1 | refine below_set ?_ GE412.out | refine below_set ?_ GE413.out | refine below_set ?_ GE414.out | refine below_set ?_ GE423.out) | exact HB.out)⟩
              · replace c59 := Bool.eq_false_iff.mpr c59
                subst c59
                have H1 : (some (([] : List Int), 0, 4)) = some (r1, r2, r3) := by rw [if_neg (show ¬ (false = true) by decide)] at H; exact H
                clear H
                have H := H1
                clear H1
                simp only [Option.some.injEq, Prod.mk.injEq] at H
                obtain ⟨rfl, rfl, rfl⟩ := H
                have hnb75 := NB412_413.out
                have hnc75 := NB413_412.out
                have hnb76 := NB412_414.out
                have hnc76 := NB414_412.out
                have hcz77_0 : wc.cell? ⟨gb412, 0, none⟩ = some (.slice A0_0 l0_0.length c0_0) := (blk_cell BK412.out 0).trans rfl
                have hcz77_1 : wc.cell? ⟨gb412, 1, none⟩ = some (.int .i64 a0_1) := (blk_cell BK412.out 1).trans rfl
                have hfz77_0 := blk_frozen BK412.out 0
                have hfz77_1 := blk_frozen BK412.out 1
                have hnb78 := NB413_414.out
                have hnc78 := NB414_413.out
                have hcz79_0 : wc.cell? ⟨gb413, 0, none⟩ = some (.slice A2_0 l2_0.length c2_0) := (blk_cell BK413.out 0).trans rfl
                have hcz79_1 : wc.cell? ⟨gb413, 1, none⟩ = some (.int .i64 a2_1) := (blk_cell BK413.out 1).trans rfl
                have hfz79_0 := blk_frozen BK413.out 0
                have hfz79_1 := blk_frozen BK413.out 1
                go_wp2_with (first | ((with_reducible refine gate_callee (f := 68) rfl ?_); refine goesL_ (some 48) rfl rfl Tryd.func68 (by kernel_rfl) rfl #[.agg #[.slice A0_0 l0_0.length c0_0, .int .i64 a0_1], .int .i64 a1, .agg #[.slice A2_0 l2_0.length c2_0, .int .i64 a2_1], .int .i64 a3] rfl (by (try simp only [List.map_toArray, List.map_cons, List.map_nil]); first | done | rfl | (simp only [List.length_drop, List.length_take]; rfl)) ?_; (with_reducible refine (familycheckref01_mix.calls kj37 _ _ l0_0 a0_1 a1 _ _ l2_0 a2_1 a3 t419 t422 _ ?side1 ?side2 ?side3 ?side4 A57.out).mono ?_); (case side1 => repeat (first | exact (Kd.C_below HR0_0.out HB.out) | (with_reducible refine Kd.C_alloc ?_ _) | (with_reducible refine Kd.C_drewN ?_ _) | (with_reducible refine Kd.C_drew ?_))); (case side2 => exact HC0_0.out); (case side3 => repeat (first | exact (Kd.C_below HR2_0.out HB.out) | (with_reducible refine Kd.C_alloc ?_ _) | (with_reducible refine Kd.C_drewN ?_ _) | (with_reducible refine Kd.C_drew ?_))); (case side4 => exact HC2_0.out); rintro e w80 ⟨v420, rfl, ho0, hb⟩; refine ⟨_, rfl, ?_⟩; have n0_ := Aside0.mk (Kd.R_lower ho0 (below_size (by repeat (first | (with_reducible first | exact HB.out | apply below_alloc | apply pw_below_drewN | apply below_drew1 | refine below_set ?_ GE412.out | refine below_set ?_ GE413.out | refine below_set ?_ GE414.out) | exact HB.out)))); have n1_ := Aside0.mk (blk_below (g := gb412) (o := .cells #[.slice A0_0 l0_0.length c0_0, .int .i64 a0_1] 33 (0, 0)) (by (with_reducible repeat (first | refine blk_drewN ?_ _ | refine blk_drew ?_ | refine blk_alloc ?_ _)); exact BK412.out) hb); have n2_ := Aside0.mk (blk_below (g := gb413) (o := .cells #[.slice A2_0 l2_0.length c2_0, .int .i64 a2_1] 33 (0, 0)) (by (with_reducible repeat (first | refine blk_drewN ?_ _ | refine blk_drew ?_ | refine blk_alloc ?_ _)); exact BK413.out) hb); have n3_ := Aside0.mk (blk_below (g := gb414) (o := .cells #[.slice none 0 0, .int .i64 0] 33 (0, 0)) (by (with_reducible repeat (first | refine blk_drewN ?_ _ | refine blk_drew ?_ | refine blk_alloc ?_ _)); exact BK414.out) hb); have n4_ := Aside0.mk (below_step (by repeat (first | (with_reducible first | exact HB.out | apply below_alloc | apply pw_below_drewN | apply below_drew1 | refine below_set ?_ GE412.out | refine below_set ?_ GE413.out | refine below_set ?_ GE414.out) | exact HB.out)) hb); clear BK412; clear BK413; clear BK414; clear HB; have HO421 := n0_; have BK412 := n1_; have BK413 := n2_; have BK414 := n3_; have HB := n4_; clear n0_ n1_ n2_ n3_ n4_; (try clear hb); (try clear hb2); (try clear hk); (try clear hi); (try clear ho0)) | ((with_reducible refine gate_dst (N := 10) rfl ?_); (try (refine gate_guard (by rfl) ?_; dsimp only)); refine box_event ?hg (N := 10) ?hd (cs := #[.slice none 0 0, .int .i64 0]) (t := 33) ?hr ?_; (case hd => rfl); (case hg => rfl); (case hr => first | (go_simp; done) | (go_simp; rfl)); intro gb423 hg w81 hbox hb; have n0_ := Aside0.mk (Kd.R_below (by (with_reducible repeat (first | apply Kd.R_alloc | apply Kd.R_drewN | apply Kd.R_drew)); exact HO421.out) hb); have n1_ := Aside0.mk (blk_below (g := gb412) (o := .cells #[.slice A0_0 l0_0.length c0_0, .int .i64 a0_1] 33 (0, 0)) (by (with_reducible repeat (first | refine blk_drewN ?_ _ | refine blk_drew ?_ | refine blk_alloc ?_ _)); exact BK412.out) hb); have n2_ := Aside0.mk (blk_below (g := gb413) (o := .cells #[.slice A2_0 l2_0.length c2_0, .int .i64 a2_1] 33 (0, 0)) (by (with_reducible repeat (first | refine blk_drewN ?_ _ | refine blk_drew ?_ | refine blk_alloc ?_ _)); exact BK413.out) hb); have n3_ := Aside0.mk (blk_below (g := gb414) (o := .cells #[.slice none 0 0, .int .i64 0] 33 (0, 0)) (by (with_reducible repeat (first | refine blk_drewN ?_ _ | refine blk_drew ?_ | refine blk_alloc ?_ _)); exact BK414.out) hb); have n4_ := Aside0.mk (below_step (by repeat (first | (with_reducible first | exact HB.out | apply below_alloc | apply pw_below_drewN | apply below_drew1 | refine below_set ?_ GE412.out | refine below_set ?_ GE413.out | refine below_set ?_ GE414.out) | exact HB.out)) hb); have n5_ := Aside0.mk (hbox); have n6_ := Aside0.mk ((by rw [hg]; exact (below_size (by repeat (first | (with_reducible first | exact HB.out | apply below_alloc | apply pw_below_drewN | apply below_drew1 | refine below_set ?_ GE412.out | refine below_set ?_ GE413.out | refine below_set ?_ GE414.out) | exact HB.out))) : w.heap.size ≤ gb423)); have n7_ := Aside0.mk ((by rw [hg]; exact (below_size (by repeat (first | (with_reducible first | exact HB.out | apply below_alloc | apply pw_below_drewN | apply below_drew1 | refine below_set ?_ GE412.out | refine below_set ?_ GE413.out | refine below_set ?_ GE414.out) | exact HB.out))) : w.heap.size ≤ gb423)); have n8_ := Aside0.mk ((by rw [hg]; exact Nat.ne_of_lt (blk_lt (g := gb412) (o := .cells #[.slice A0_0 l0_0.length c0_0, .int .i64 a0_1] 33 (0, 0)) (by (with_reducible repeat (first | refine blk_drewN ?_ _ | refine blk_drew ?_ | refine blk_alloc ?_ _)); exact BK412.out)) : gb412 ≠ gb423)); have n9_ := Aside0.mk ((by rw [hg]; exact Nat.ne_of_gt (blk_lt (g := gb412) (o := .cells #[.slice A0_0 l0_0.length c0_0, .int .i64 a0_1] 33 (0, 0)) (by (with_reducible repeat (first | refine blk_drewN ?_ _ | refine blk_drew ?_ | refine blk_alloc ?_ _)); exact BK412.out)) : gb423 ≠ gb412)); have n10_ := Aside0.mk ((by rw [hg]; exact Nat.ne_of_lt (blk_lt (g := gb413) (o := .cells #[.slice A2_0 l2_0.length c2_0, .int .i64 a2_1] 33 (0, 0)) (by (with_reducible repeat (first | refine blk_drewN ?_ _ | refine blk_drew ?_ | refine blk_alloc ?_ _)); exact BK413.out)) : gb413 ≠ gb423)); have n11_ := Aside0.mk ((by rw [hg]; exact Nat.ne_of_gt (blk_lt (g := gb413) (o := .cells #[.slice A2_0 l2_0.length c2_0, .int .i64 a2_1] 33 (0, 0)) (by (with_reducible repeat (first | refine blk_drewN ?_ _ | refine blk_drew ?_ | refine blk_alloc ?_ _)); exact BK413.out)) : gb423 ≠ gb413)); have n12_ := Aside0.mk ((by rw [hg]; exact Nat.ne_of_lt (blk_lt (g := gb414) (o := .cells #[.slice none 0 0, .int .i64 0] 33 (0, 0)) (by (with_reducible repeat (first | refine blk_drewN ?_ _ | refine blk_drew ?_ | refine blk_alloc ?_ _)); exact BK414.out)) : gb414 ≠ gb423)); have n13_ := Aside0.mk ((by rw [hg]; exact Nat.ne_of_gt (blk_lt (g := gb414) (o := .cells #[.slice none 0 0, .int .i64 0] 33 (0, 0)) (by (with_reducible repeat (first | refine blk_drewN ?_ _ | refine blk_drew ?_ | refine blk_alloc ?_ _)); exact BK414.out)) : gb423 ≠ gb414)); clear HO421; clear BK412; clear BK413; clear BK414; clear HB; have HO421 := n0_; have BK412 := n1_; have BK413 := n2_; have BK414 := n3_; have HB := n4_; have BK423 := n5_; have GW423 := n6_; have GE423 := n7_; have NB412_423 := n8_; have NB423_412 := n9_; have NB413_423 := n10_; have NB423_413 := n11_; have NB414_423 := n12_; have NB423_414 := n13_; clear n0_ n1_ n2_ n3_ n4_ n5_ n6_ n7_ n8_ n9_ n10_ n11_ n12_ n13_; clear hb hbox hg; obtain ⟨Ao82, co82, eo82⟩ := Kd.R_slice HO421.out; subst eo82; have hnb83 := NB423_412.out; have hnc83 := NB412_423.out; have hnb84 := NB423_413.out; have hnc84 := NB413_423.out; have hnb85 := NB423_414.out; have hnc85 := NB414_423.out; have hcz86_0 : w81.cell? ⟨gb423, 0, none⟩ = some (.slice none 0 0) := (blk_cell BK423.out 0).trans rfl; have hcz86_1 : w81.cell? ⟨gb423, 1, none⟩ = some (.int .i64 0) := (blk_cell BK423.out 1).trans rfl; have hfz86_0 := blk_frozen BK423.out 0; have hfz86_1 := blk_frozen BK423.out 1) | ((with_reducible refine gate_callee (f := 51) rfl ?_); refine goesL_ (some 50) rfl rfl Tryd.func51 (by kernel_rfl) rfl #[.agg #[.slice Ao82 t419.length co82, .int .i64 t422]] rfl (by (try simp only [List.map_toArray, List.map_cons, List.map_nil]); first | done | rfl | (simp only [List.length_drop, List.length_take]; rfl)) ?_; (with_reducible refine (familycheckref01_Small.calls kj37 _ _ t419 t422 false _ ?side1 ?side2 A58.out).mono ?_); (case side1 => refine (Kd.R_reads' (e := 3) (base := w.heap.size) (ok := fun k_ => True) (n := t419.length) (c := co82) ?_).2.2; exact (by (with_reducible repeat (first | apply Kd.R_alloc | apply Kd.R_drewN | apply Kd.R_drew)); exact (Kd.R_mono (Kd.R_far (p := ⟨gb423, 1, none⟩) (Kd.R_far (p := ⟨gb423, 0, none⟩) (Kd.R_types HO421.out BK423.out (by decide)) (fun _ hk => hk.2) (.slice Ao82 t419.length co82)) (fun _ hk => hk.2) (.int .i64 t422)) (fun _ h_ => h_.1)))); (case side2 => exact (Kd.R_reads' HO421.out).2.1); rintro e w87 ⟨rfl, hb⟩; refine ⟨_, rfl, ?_⟩; have n0_ := Aside0.mk (Kd.R_below (by (with_reducible repeat (first | apply Kd.R_alloc | apply Kd.R_drewN | apply Kd.R_drew)); exact (Kd.R_mono (Kd.R_far (p := ⟨gb423, 1, none⟩) (Kd.R_far (p := ⟨gb423, 0, none⟩) (Kd.R_types HO421.out BK423.out (by decide)) (fun _ hk => hk.2) (.slice Ao82 t419.length co82)) (fun _ hk => hk.2) (.int .i64 t422)) (fun _ h_ => h_.1))) hb); have n1_ := Aside0.mk (blk_below (g := gb412) (o := .cells #[.slice A0_0 l0_0.length c0_0, .int .i64 a0_1] 33 (0, 0)) (by (with_reducible repeat (first | refine blk_drewN ?_ _ | refine blk_drew ?_ | refine blk_alloc ?_ _)); refine blk_far ?_ NB412_423.out _; (with_reducible repeat (first | refine blk_drewN ?_ _ | refine blk_drew ?_ | refine blk_alloc ?_ _)); refine blk_far ?_ NB412_423.out _; (with_reducible repeat (first | refine blk_drewN ?_ _ | refine blk_drew ?_ | refine blk_alloc ?_ _)); exact BK412.out) hb); have n2_ := Aside0.mk (blk_below (g := gb413) (o := .cells #[.slice A2_0 l2_0.length c2_0, .int .i64 a2_1] 33 (0, 0)) (by (with_reducible repeat (first | refine blk_drewN ?_ _ | refine blk_drew ?_ | refine blk_alloc ?_ _)); refine blk_far ?_ NB413_423.out _; (with_reducible repeat (first | refine blk_drewN ?_ _ | refine blk_drew ?_ | refine blk_alloc ?_ _)); refine blk_far ?_ NB413_423.out _; (with_reducible repeat (first | refine blk_drewN ?_ _ | refine blk_drew ?_ | refine blk_alloc ?_ _)); exact BK413.out) hb); have n3_ := Aside0.mk (blk_below (g := gb414) (o := .cells #[.slice none 0 0, .int .i64 0] 33 (0, 0)) (by (with_reducible repeat (first | refine blk_drewN ?_ _ | refine blk_drew ?_ | refine blk_alloc ?_ _)); refine blk_far ?_ NB414_423.out _; (with_reducible repeat (first | refine blk_drewN ?_ _ | refine blk_drew ?_ | refine blk_alloc ?_ _)); refine blk_far ?_ NB414_423.out _; (with_reducible repeat (first | refine blk_drewN ?_ _ | refine blk_drew ?_ | refine blk_alloc ?_ _)); exact BK414.out) hb); have n4_ := Aside0.mk (blk_below (g := gb423) (o := .cells #[.slice Ao82 t419.length co82, .int .i64 t422] 33 (0, 0)) (by (with_reducible repeat (first | refine blk_drewN ?_ _ | refine blk_drew ?_ | refine blk_alloc ?_ _)); refine blk_put (cs := #[.slice Ao82 t419.length co82, .int .i64 0]) ?_ 1 _ rfl; (with_reducible repeat (first | refine blk_drewN ?_ _ | refine blk_drew ?_ | refine blk_alloc ?_ _)); refine blk_put (cs := #[.slice none 0 0, .int .i64 0]) ?_ 0 _ rfl; (with_reducible repeat (first | refine blk_drewN ?_ _ | refine blk_drew ?_ | refine blk_alloc ?_ _)); exact BK423.out) hb); have n5_ := Aside0.mk (below_step (by repeat (first | (with_reducible first | exact HB.out | apply below_alloc | apply pw_below_drewN | apply below_drew1 | refine below_set ?_ GE412.out | refine below_set ?_ GE413.out | refine below_set ?_ GE414.out | refine below_set ?_ GE423.out) | exact HB.out)) hb); clear HO421; clear BK412; clear BK413; clear BK414; clear BK423; clear HB; have HO421 := n0_; have BK412 := n1_; have BK413 := n2_; have BK414 := n3_; have BK423 := n4_; have HB := n5_; clear n0_ n1_ n2_ n3_ n4_ n5_; (try clear hb); (try clear hb2); (try clear hk); (try clear hi); have hcz88_0 : w87.cell? ⟨gb414, 0, none⟩ = some (.slice none 0 0) := (blk_cell BK414.out 0).trans rfl; have hcz88_1 : w87.cell? ⟨gb414, 1, none⟩ = some (.int .i64 0) := (blk_cell BK414.out 1).trans rfl; have hfz88_0 := blk_frozen BK414.out 0; have hfz88_1 := blk_frozen BK414.out 1))
                refine bodyPost_ret (results_ct rfl _ _ gb414 33 #[.slice none 0 0, .int .i64 0] (0, 0) _ rfl (by (with_reducible repeat (first | refine blk_drewN ?_ _ | refine blk_drew ?_ | refine blk_alloc ?_ _)); refine blk_put (cs := #[.slice none 0 0, .int .i64 0]) ?_ 1 _ rfl; (with_reducible repeat (first | refine blk_drewN ?_ _ | refine blk_drew ?_ | refine blk_alloc ?_ _)); refine blk_put (cs := #[.slice none 0 0, .int .i64 0]) ?_ 0 _ rfl; (with_reducible repeat (first | refine blk_drewN ?_ _ | refine blk_drew ?_ | refine blk_alloc ?_ _)); exact BK414.out) Tryd.underlying33 rfl (by kernel_rfl)) rfl ?_
                exact ⟨_, by first | rfl | (simp [errW_none, errW_some] <;> rfl) | (simp [*, errW_none, errW_some] <;> rfl), by first | exact Kd.R_nil _ _ _ _ _ | exact Kd.N_nil _ _ _ _ _ | exact Kd.V_nil _ _ _ _ _ | exact Kd.Q_nil _ _ _ _ _ | exact Kd.S_nil _ _ _ _ _, by repeat (first | (with_reducible first | exact HB.out | apply below_alloc | apply pw_below_drewN | apply below_drew1 | refine below_set ?_ GE412.out | refine below_set ?_ GE413.out | refine below_set ?_ GE414.out | refine below_set ?_ GE423.out) | exact HB.out)⟩

end Go.Proofs.YtbioiodjdfcooaaDoor.P
