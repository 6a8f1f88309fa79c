/- familychecklaw01_LinearAppends, printed. -/
import Derived.Test.YtbioiodjdfcooaaDoorVEPx0
import Derived.Test.YtbioiodjdfcooaaDoorVEPx1
import Derived.Test.YtbioiodjdfcooaaDoorVEPx10
import Derived.Test.YtbioiodjdfcooaaDoorVEPx11
import Derived.Test.YtbioiodjdfcooaaDoorVEPx18
import Derived.Test.YtbioiodjdfcooaaDoorVEPx33
import Derived.Test.YtbioiodjdfcooaaDoorVEPx34
import Derived.Test.YtbioiodjdfcooaaDoorVEPx7
import Derived.Test.YtbioiodjdfcooaaDoorVEPx8
import Derived.Test.YtbioiodjdfcooaaDoorVESpoil
import Derived.Test.YtbioiodjdfcooaaDoorVEYAppends
import Derived.WalkMore
namespace Go.Proofs.YtbioiodjdfcooaaDoor.P
open Go.RowKit Go.Proofs.YtbioiodjdfcooaaDoorW.PrintWords Go.Proofs.YtbioiodjdfcooaaDoorW.PrintLast Go.Proofs.YtbioiodjdfcooaaDoorW.PrintMore
set_option linter.unusedVariables false
set_option linter.unusedSimpArgs false
open Build
set_option maxHeartbeats 8000000 in
set_option maxRecDepth 100000 in
theorem familychecklaw01_LinearAppends.calls (k : Nat) (a0_0 : Int) (A0_1 : Option Addr) (c0_1 : Nat) (l0_1 : List (S33)) (A1_0 : Option Addr) (c1_0 : Nat) (l1_0 : List Int) (a1_1 : Int) (r : Bool) (w : World) (hr0_1 : Kd.C k33 w A0_1 l0_1.length l0_1) (hc0_1 : l0_1.length ≤ c0_1) (hr1_0 : Kd.C (Kd.int .i64) w A1_0 l1_0.length l1_0) (hc1_0 : l1_0.length ≤ c1_0) (h : familychecklaw01_LinearAppends.f k a0_0 l0_1 l1_0 a1_1 = some r) :
    Calls Tryd.prog 11 #[.agg #[.int .i64 a0_0, .slice A0_1 l0_1.length c0_1], .agg #[.slice A1_0 l1_0.length c1_0, .int .i64 a1_1]] w fun e w' => e = .returned (.bool r) ∧ Below w.heap.size w w' := by
  have hu24 := Tryd.underlying24
  have hu33 := Tryd.underlying33
  have HR0_1 := Aside0.mk hr0_1
  have HC0_1 := Aside0.mk hc0_1
  clear hr0_1 hc0_1
  have HR1_0 := Aside0.mk hr1_0
  have HC1_0 := Aside0.mk hc1_0
  clear hr1_0 hc1_0
  have HB := Aside0.mk (Below.refl w.heap.size w)
  have H : ((familychecklaw01_wide.f k a0_0 l0_1).bind fun t261 => (if t261 = true then (familychecklaw01_LinearAppends.j0 k true a0_0 l0_1 l1_0 a1_1) else ((familychecklaw01_long.f l1_0 a1_1).bind fun t262 => (familychecklaw01_LinearAppends.j0 k t262 a0_0 l0_1 l1_0 a1_1)))) = some r := h
  clear h
  have HC3 := Aside0.mk H
  clear H
  go_enter Tryd.func11, Tryd.ntmps11
  go_upto_region 1 with (first | ((with_reducible refine gate_dst (N := 2) rfl ?_); refine box_event ?hg (N := 2) ?hd (cs := #[.int .i64 a0_0, .slice A0_1 l0_1.length c0_1]) (t := 24) ?hr ?_; (case hd => rfl); (case hg => rfl); (case hr => first | (go_simp; done) | (go_simp; rfl)); intro gb259 hg w4 hbox hb; have n0_ := Aside0.mk (below_step (by repeat (first | (with_reducible first | exact HB.out | apply below_alloc | apply pw_below_drewN | apply below_drew1) | exact HB.out)) hb); have n1_ := Aside0.mk (hbox); have n2_ := Aside0.mk ((by rw [hg]; exact (below_size (by repeat (first | (with_reducible first | exact HB.out | apply below_alloc | apply pw_below_drewN | apply below_drew1) | exact HB.out))) : w.heap.size ≤ gb259)); have n3_ := Aside0.mk ((by rw [hg]; exact (below_size (by repeat (first | (with_reducible first | exact HB.out | apply below_alloc | apply pw_below_drewN | apply below_drew1) | exact HB.out))) : w.heap.size ≤ gb259)); clear HB; have HB := n0_; have BK259 := n1_; have GW259 := n2_; have GE259 := n3_; clear n0_ n1_ n2_ n3_; clear hb hbox hg) | ((with_reducible refine gate_dst (N := 3) rfl ?_); refine box_event ?hg (N := 3) ?hd (cs := #[.slice A1_0 l1_0.length c1_0, .int .i64 a1_1]) (t := 33) ?hr ?_; (case hd => rfl); (case hg => rfl); (case hr => first | (go_simp; done) | (go_simp; rfl)); intro gb260 hg w5 hbox hb; have n0_ := Aside0.mk (blk_below (g := gb259) (o := .cells #[.int .i64 a0_0, .slice A0_1 l0_1.length c0_1] 24 (0, 0)) (by (with_reducible repeat (first | refine blk_drewN ?_ _ | refine blk_drew ?_ | refine blk_alloc ?_ _)); exact BK259.out) hb); have n1_ := Aside0.mk (below_step (by repeat (first | (with_reducible first | exact HB.out | apply below_alloc | apply pw_below_drewN | apply below_drew1 | refine below_set ?_ GE259.out) | exact HB.out)) hb); have n2_ := Aside0.mk (hbox); have n3_ := Aside0.mk ((by rw [hg]; exact (below_size (by repeat (first | (with_reducible first | exact HB.out | apply below_alloc | apply pw_below_drewN | apply below_drew1 | refine below_set ?_ GE259.out) | exact HB.out))) : w.heap.size ≤ gb260)); have n4_ := Aside0.mk ((by rw [hg]; exact (below_size (by repeat (first | (with_reducible first | exact HB.out | apply below_alloc | apply pw_below_drewN | apply below_drew1 | refine below_set ?_ GE259.out) | exact HB.out))) : w.heap.size ≤ gb260)); have n5_ := Aside0.mk ((by rw [hg]; exact Nat.ne_of_lt (blk_lt (g := gb259) (o := .cells #[.int .i64 a0_0, .slice A0_1 l0_1.length c0_1] 24 (0, 0)) (by (with_reducible repeat (first | refine blk_drewN ?_ _ | refine blk_drew ?_ | refine blk_alloc ?_ _)); exact BK259.out)) : gb259 ≠ gb260)); have n6_ := Aside0.mk ((by rw [hg]; exact Nat.ne_of_gt (blk_lt (g := gb259) (o := .cells #[.int .i64 a0_0, .slice A0_1 l0_1.length c0_1] 24 (0, 0)) (by (with_reducible repeat (first | refine blk_drewN ?_ _ | refine blk_drew ?_ | refine blk_alloc ?_ _)); exact BK259.out)) : gb260 ≠ gb259)); clear BK259; clear HB; have BK259 := n0_; have HB := n1_; have BK260 := n2_; have GW260 := n3_; have GE260 := n4_; have NB259_260 := n5_; have NB260_259 := n6_; clear n0_ n1_ n2_ n3_ n4_ n5_ n6_; clear hb hbox hg))
  (try simp only [Act.put, List.setIfInBounds_toArray, List.set_cons_zero, List.set_cons_succ])
  go_cut [18] (fun v18 wc => ∃ (kq : Nat) (x18_2 : Bool), v18 = .bool x18_2 ∧ Aside0 (familychecklaw01_LinearAppends.j0 kq x18_2 a0_0 l0_1 l1_0 a1_1 = some r) ∧ Aside0 (kq ≤ k) ∧ Aside0 (wc.heap[gb259]? = some (.cells #[.int .i64 a0_0, (.slice A0_1 l0_1.length c0_1)] 24 (0, 0))) ∧ Aside0 (wc.heap[gb260]? = some (.cells #[(.slice A1_0 l1_0.length c1_0), .int .i64 a1_1] 33 (0, 0))) ∧ Aside0 (Below w.heap.size w wc))
  case first =>
    have H := HC3.out
    clear HC3
    replace H := Option.bind_eq_some_iff.mp H
    obtain ⟨t261, A60, H⟩ := H
    replace H : (if t261 = true then (familychecklaw01_LinearAppends.j0 k true a0_0 l0_1 l1_0 a1_1) else ((familychecklaw01_long.f l1_0 a1_1).bind fun t262 => (familychecklaw01_LinearAppends.j0 k t262 a0_0 l0_1 l1_0 a1_1))) = some r := H
    have A6 := Aside0.mk A60
    clear A60
    by_cases c7 : t261 = true
    · subst c7
      have H1 : (familychecklaw01_LinearAppends.j0 k true a0_0 l0_1 l1_0 a1_1) = some r := by rw [if_pos rfl] at H; exact H
      clear H
      have H := H1
      clear H1
      have H' := Aside0.mk H
      clear H
      have hnb8 := NB259_260.out
      have hnc8 := NB260_259.out
      have hcz9_0 : w5.cell? ⟨gb259, 0, none⟩ = some (.int .i64 a0_0) := (blk_cell BK259.out 0).trans rfl
      have hcz9_1 : w5.cell? ⟨gb259, 1, none⟩ = some (.slice A0_1 l0_1.length c0_1) := (blk_cell BK259.out 1).trans rfl
      have hfz9_0 := blk_frozen BK259.out 0
      have hfz9_1 := blk_frozen BK259.out 1
      go_wp2_with (first | ((with_reducible refine gate_callee (f := 15) rfl ?_); refine goesL_ (some 14) rfl rfl Tryd.func15 (by kernel_rfl) rfl #[.agg #[.int .i64 a0_0, .slice A0_1 l0_1.length c0_1]] rfl (by (try simp only [List.map_toArray, List.map_cons, List.map_nil]); first | done | rfl | (simp only [List.length_drop, List.length_take]; rfl)) ?_; (with_reducible refine (familychecklaw01_wide.calls k a0_0 _ _ l0_1 true _ ?side1 ?side2 A6.out).mono ?_); (case side1 => repeat (first | exact (Kd.C_below HR0_1.out HB.out) | (with_reducible refine Kd.C_alloc ?_ _) | (with_reducible refine Kd.C_drewN ?_ _) | (with_reducible refine Kd.C_drew ?_))); (case side2 => exact HC0_1.out); rintro e w10 ⟨rfl, hb⟩; refine ⟨_, rfl, ?_⟩; have n0_ := Aside0.mk (blk_below (g := gb259) (o := .cells #[.int .i64 a0_0, .slice A0_1 l0_1.length c0_1] 24 (0, 0)) (by (with_reducible repeat (first | refine blk_drewN ?_ _ | refine blk_drew ?_ | refine blk_alloc ?_ _)); exact BK259.out) hb); have n1_ := Aside0.mk (blk_below (g := gb260) (o := .cells #[.slice A1_0 l1_0.length c1_0, .int .i64 a1_1] 33 (0, 0)) (by (with_reducible repeat (first | refine blk_drewN ?_ _ | refine blk_drew ?_ | refine blk_alloc ?_ _)); exact BK260.out) hb); have n2_ := Aside0.mk (below_step (by repeat (first | (with_reducible first | exact HB.out | apply below_alloc | apply pw_below_drewN | apply below_drew1 | refine below_set ?_ GE259.out | refine below_set ?_ GE260.out) | exact HB.out)) hb); clear BK259; clear BK260; clear HB; have BK259 := n0_; have BK260 := n1_; have HB := n2_; clear n0_ n1_ n2_; (try clear hb); (try clear hb2); (try clear hk); (try clear hi)))
      go_meet
      case rel => exact ⟨_, (true), (by first | rfl | (simp; done) | (simp [*]; done)), H', ⟨by first | omega | exact Nat.le_refl _⟩, ⟨by (with_reducible repeat (first | refine blk_drewN ?_ _ | refine blk_drew ?_ | refine blk_alloc ?_ _)); exact BK259.out⟩, ⟨by (with_reducible repeat (first | refine blk_drewN ?_ _ | refine blk_drew ?_ | refine blk_alloc ?_ _)); exact BK260.out⟩, ⟨by repeat (first | (with_reducible first | exact HB.out | apply below_alloc | apply pw_below_drewN | apply below_drew1 | refine below_set ?_ GE259.out | refine below_set ?_ GE260.out) | exact HB.out)⟩⟩
    · replace c7 := Bool.eq_false_iff.mpr c7
      subst c7
      have H1 : ((familychecklaw01_long.f l1_0 a1_1).bind fun t262 => (familychecklaw01_LinearAppends.j0 k t262 a0_0 l0_1 l1_0 a1_1)) = some r := by rw [if_neg (show ¬ (false = true) by decide)] at H; exact H
      clear H
      have H := H1
      clear H1
      replace H := Option.bind_eq_some_iff.mp H
      obtain ⟨t262, A110, H⟩ := H
      replace H : (familychecklaw01_LinearAppends.j0 k t262 a0_0 l0_1 l1_0 a1_1) = some r := H
      have A11 := Aside0.mk A110
      clear A110
      have H' := Aside0.mk H
      clear H
      have hnb12 := NB259_260.out
      have hnc12 := NB260_259.out
      have hcz13_0 : w5.cell? ⟨gb259, 0, none⟩ = some (.int .i64 a0_0) := (blk_cell BK259.out 0).trans rfl
      have hcz13_1 : w5.cell? ⟨gb259, 1, none⟩ = some (.slice A0_1 l0_1.length c0_1) := (blk_cell BK259.out 1).trans rfl
      have hfz13_0 := blk_frozen BK259.out 0
      have hfz13_1 := blk_frozen BK259.out 1
      go_wp2_with (first | ((with_reducible refine gate_callee (f := 15) rfl ?_); refine goesL_ (some 14) rfl rfl Tryd.func15 (by kernel_rfl) rfl #[.agg #[.int .i64 a0_0, .slice A0_1 l0_1.length c0_1]] rfl (by (try simp only [List.map_toArray, List.map_cons, List.map_nil]); first | done | rfl | (simp only [List.length_drop, List.length_take]; rfl)) ?_; (with_reducible refine (familychecklaw01_wide.calls k a0_0 _ _ l0_1 false _ ?side1 ?side2 A6.out).mono ?_); (case side1 => repeat (first | exact (Kd.C_below HR0_1.out HB.out) | (with_reducible refine Kd.C_alloc ?_ _) | (with_reducible refine Kd.C_drewN ?_ _) | (with_reducible refine Kd.C_drew ?_))); (case side2 => exact HC0_1.out); rintro e w14 ⟨rfl, hb⟩; refine ⟨_, rfl, ?_⟩; have n0_ := Aside0.mk (blk_below (g := gb259) (o := .cells #[.int .i64 a0_0, .slice A0_1 l0_1.length c0_1] 24 (0, 0)) (by (with_reducible repeat (first | refine blk_drewN ?_ _ | refine blk_drew ?_ | refine blk_alloc ?_ _)); exact BK259.out) hb); have n1_ := Aside0.mk (blk_below (g := gb260) (o := .cells #[.slice A1_0 l1_0.length c1_0, .int .i64 a1_1] 33 (0, 0)) (by (with_reducible repeat (first | refine blk_drewN ?_ _ | refine blk_drew ?_ | refine blk_alloc ?_ _)); exact BK260.out) hb); have n2_ := Aside0.mk (below_step (by repeat (first | (with_reducible first | exact HB.out | apply below_alloc | apply pw_below_drewN | apply below_drew1 | refine below_set ?_ GE259.out | refine below_set ?_ GE260.out) | exact HB.out)) hb); clear BK259; clear BK260; clear HB; have BK259 := n0_; have BK260 := n1_; have HB := n2_; clear n0_ n1_ n2_; (try clear hb); (try clear hb2); (try clear hk); (try clear hi); have hcz15_0 : w14.cell? ⟨gb260, 0, none⟩ = some (.slice A1_0 l1_0.length c1_0) := (blk_cell BK260.out 0).trans rfl; have hcz15_1 : w14.cell? ⟨gb260, 1, none⟩ = some (.int .i64 a1_1) := (blk_cell BK260.out 1).trans rfl; have hfz15_0 := blk_frozen BK260.out 0; have hfz15_1 := blk_frozen BK260.out 1) | (go_at_call 21; (with_reducible refine (familychecklaw01_long.calls _ _ l1_0 a1_1 t262 _ ?side1 ?side2 A11.out).mono ?_); (case side1 => repeat (first | exact (Kd.C_below HR1_0.out HB.out) | (with_reducible refine Kd.C_alloc ?_ _) | (with_reducible refine Kd.C_drewN ?_ _) | (with_reducible refine Kd.C_drew ?_))); (case side2 => exact HC1_0.out); rintro e w16 ⟨rfl, hb⟩; have n0_ := Aside0.mk (blk_below (g := gb259) (o := .cells #[.int .i64 a0_0, .slice A0_1 l0_1.length c0_1] 24 (0, 0)) (by (with_reducible repeat (first | refine blk_drewN ?_ _ | refine blk_drew ?_ | refine blk_alloc ?_ _)); exact BK259.out) hb); have n1_ := Aside0.mk (blk_below (g := gb260) (o := .cells #[.slice A1_0 l1_0.length c1_0, .int .i64 a1_1] 33 (0, 0)) (by (with_reducible repeat (first | refine blk_drewN ?_ _ | refine blk_drew ?_ | refine blk_alloc ?_ _)); exact BK260.out) hb); have n2_ := Aside0.mk (below_step (by repeat (first | (with_reducible first | exact HB.out | apply below_alloc | apply pw_below_drewN | apply below_drew1 | refine below_set ?_ GE259.out | refine below_set ?_ GE260.out) | exact HB.out)) hb); clear BK259; clear BK260; clear HB; have BK259 := n0_; have BK260 := n1_; have HB := n2_; clear n0_ n1_ n2_; (try clear hb); (try clear hb2); (try clear hk); (try clear hi)))
      go_meet
      case rel => exact ⟨_, (t262), (by first | rfl | (simp; done) | (simp [*]; done)), H', ⟨by first | omega | exact Nat.le_refl _⟩, ⟨by (with_reducible repeat (first | refine blk_drewN ?_ _ | refine blk_drew ?_ | refine blk_alloc ?_ _)); exact BK259.out⟩, ⟨by (with_reducible repeat (first | refine blk_drewN ?_ _ | refine blk_drew ?_ | refine blk_alloc ?_ _)); exact BK260.out⟩, ⟨by repeat (first | (with_reducible first | exact HB.out | apply below_alloc | apply pw_below_drewN | apply below_drew1 | refine below_set ?_ GE259.out | refine below_set ?_ GE260.out) | exact HB.out)⟩⟩
  case rest =>
    clear HC3
    try clear c1
    try clear p2
    try clear c7
    try clear c8
    try clear c11
    try clear c12
    try clear c15
    try clear hcz13_0
    try clear hcz13_1
    try clear hcz15_0
    try clear hcz15_1
    try clear hcz9_0
    try clear hcz9_1
    try clear hfz13_0
    try clear hfz13_1
    try clear hfz15_0
    try clear hfz15_1
    try clear hfz9_0
    try clear hfz9_1
    obtain ⟨kq, x18_2, rfl, HA, HJ2, BK259, BK260, HB⟩ := hcut
    cases kq with
    | zero => exact absurd HA.out (by simp [familychecklaw01_LinearAppends.j0])
    | succ kj2 =>
      have H := HA.out
      clear HA
      simp only [familychecklaw01_LinearAppends.j0] at H
      by_cases c17 : x18_2 = true
      · subst c17
        have H1 : ((familychecklaw01_known.f kj2).bind fun t263 => (some t263)) = some r := by rw [if_pos rfl] at H; exact H
        clear H
        have H := H1
        clear H1
        replace H := Option.bind_eq_some_iff.mp H
        obtain ⟨t263, A180, H⟩ := H
        replace H : (some t263) = some r := H
        have A18 := Aside0.mk A180
        clear A180
        obtain rfl := Option.some.inj H
        go_wp2_with (first | ((with_reducible refine gate_callee (f := 16) rfl ?_); refine goesL_ (some 19) rfl rfl Tryd.func16 (by kernel_rfl) rfl #[] rfl (by (try simp only [List.map_toArray, List.map_cons, List.map_nil]); first | done | rfl | (simp only [List.length_drop, List.length_take]; rfl)) ?_; (with_reducible refine (familychecklaw01_known.calls kj2  t263 _ A18.out).mono ?_); rintro e w19 ⟨rfl, hb⟩; refine ⟨_, rfl, ?_⟩; have n0_ := Aside0.mk (blk_below (g := gb259) (o := .cells #[.int .i64 a0_0, .slice A0_1 l0_1.length c0_1] 24 (0, 0)) (by (with_reducible repeat (first | refine blk_drewN ?_ _ | refine blk_drew ?_ | refine blk_alloc ?_ _)); exact BK259.out) hb); have n1_ := Aside0.mk (blk_below (g := gb260) (o := .cells #[.slice A1_0 l1_0.length c1_0, .int .i64 a1_1] 33 (0, 0)) (by (with_reducible repeat (first | refine blk_drewN ?_ _ | refine blk_drew ?_ | refine blk_alloc ?_ _)); exact BK260.out) hb); have n2_ := Aside0.mk (below_step (by repeat (first | (with_reducible first | exact HB.out | apply below_alloc | apply pw_below_drewN | apply below_drew1 | refine below_set ?_ GE259.out | refine below_set ?_ GE260.out) | exact HB.out)) hb); clear BK259; clear BK260; clear HB; have BK259 := n0_; have BK260 := n1_; have HB := n2_; clear n0_ n1_ n2_; (try clear hb); (try clear hb2); (try clear hk); (try clear hi)))
        go_ret
        exact ⟨by first | rfl | (simp [errW_none, errW_some] <;> rfl) | (simp [*, errW_none, errW_some] <;> rfl), by repeat (first | (with_reducible first | exact HB.out | apply below_alloc | apply pw_below_drewN | apply below_drew1 | refine below_set ?_ GE259.out | refine below_set ?_ GE260.out) | exact HB.out)⟩
      · replace c17 := Bool.eq_false_iff.mpr c17
        subst c17
        have H1 : ((familycheckref01_CopySystem.f kj2 a0_0 l0_1).bind fun bt264 => ((familycheckref01_CopyRow.f l1_0 a1_1).bind fun bt268 => ((linear_Append.f kj2 bt264.1 bt264.2 bt268.1 bt268.2).bind fun bt274 => ((familycheckref01_Append.f kj2 a0_0 l0_1 l1_0 a1_1).bind fun bt280 => (if bt274.2.2 = bt280.2.2 then ((familycheckref01_SameSystem.f kj2 bt274.1 bt274.2.1 bt280.1 bt280.2.1).bind fun t286 => (familychecklaw01_LinearAppends.j1 kj2 t286 a0_0 l0_1 l1_0 a1_1 bt264.1 bt264.2 bt268.1 bt268.2 bt274.1 bt274.2.1)) else (familychecklaw01_LinearAppends.j1 kj2 false a0_0 l0_1 l1_0 a1_1 bt264.1 bt264.2 bt268.1 bt268.2 bt274.1 bt274.2.1)))))) = some r := by rw [if_neg (show ¬ (false = true) by decide)] at H; exact H
        clear H
        have H := H1
        clear H1
        replace H := Option.bind_eq_some_iff.mp H
        obtain ⟨⟨t264, t265⟩, A200, H⟩ := H
        replace H : ((familycheckref01_CopyRow.f l1_0 a1_1).bind fun bt268 => ((linear_Append.f kj2 t264 t265 bt268.1 bt268.2).bind fun bt274 => ((familycheckref01_Append.f kj2 a0_0 l0_1 l1_0 a1_1).bind fun bt280 => (if bt274.2.2 = bt280.2.2 then ((familycheckref01_SameSystem.f kj2 bt274.1 bt274.2.1 bt280.1 bt280.2.1).bind fun t286 => (familychecklaw01_LinearAppends.j1 kj2 t286 a0_0 l0_1 l1_0 a1_1 t264 t265 bt268.1 bt268.2 bt274.1 bt274.2.1)) else (familychecklaw01_LinearAppends.j1 kj2 false a0_0 l0_1 l1_0 a1_1 t264 t265 bt268.1 bt268.2 bt274.1 bt274.2.1))))) = some r := H
        have A20 := Aside0.mk A200
        clear A200
        replace H := Option.bind_eq_some_iff.mp H
        obtain ⟨⟨t268, t271⟩, A210, H⟩ := H
        replace H : ((linear_Append.f kj2 t264 t265 t268 t271).bind fun bt274 => ((familycheckref01_Append.f kj2 a0_0 l0_1 l1_0 a1_1).bind fun bt280 => (if bt274.2.2 = bt280.2.2 then ((familycheckref01_SameSystem.f kj2 bt274.1 bt274.2.1 bt280.1 bt280.2.1).bind fun t286 => (familychecklaw01_LinearAppends.j1 kj2 t286 a0_0 l0_1 l1_0 a1_1 t264 t265 t268 t271 bt274.1 bt274.2.1)) else (familychecklaw01_LinearAppends.j1 kj2 false a0_0 l0_1 l1_0 a1_1 t264 t265 t268 t271 bt274.1 bt274.2.1)))) = some r := H
        have A21 := Aside0.mk A210
        clear A210
        replace H := Option.bind_eq_some_iff.mp H
        obtain ⟨⟨t274, t275, t278⟩, A220, H⟩ := H
        replace H : ((familycheckref01_Append.f kj2 a0_0 l0_1 l1_0 a1_1).bind fun bt280 => (if t278 = bt280.2.2 then ((familycheckref01_SameSystem.f kj2 t274 t275 bt280.1 bt280.2.1).bind fun t286 => (familychecklaw01_LinearAppends.j1 kj2 t286 a0_0 l0_1 l1_0 a1_1 t264 t265 t268 t271 t274 t275)) else (familychecklaw01_LinearAppends.j1 kj2 false a0_0 l0_1 l1_0 a1_1 t264 t265 t268 t271 t274 t275))) = some r := H
        have A22 := Aside0.mk A220
        clear A220
        replace H := Option.bind_eq_some_iff.mp H
        obtain ⟨⟨t280, t281, t284⟩, A230, H⟩ := H
        replace H : (if t278 = t284 then ((familycheckref01_SameSystem.f kj2 t274 t275 t280 t281).bind fun t286 => (familychecklaw01_LinearAppends.j1 kj2 t286 a0_0 l0_1 l1_0 a1_1 t264 t265 t268 t271 t274 t275)) else (familychecklaw01_LinearAppends.j1 kj2 false a0_0 l0_1 l1_0 a1_1 t264 t265 t268 t271 t274 t275)) = some r := H
        have A23 := Aside0.mk A230
        clear A230
        have HC24 := Aside0.mk H
        clear H
        try go_wp2
        have n0_ := Aside0.mk (blk_drew BK259.out)
        have n1_ := Aside0.mk (blk_drew BK260.out)
        have n2_ := Aside0.mk (below_drew1 HB.out)
        clear BK259
        clear BK260
        clear HB
        have BK259 := n0_
        have BK260 := n1_
        have HB := n2_
        clear n0_ n1_ n2_
        refine start_ (n := 8) (S := fun w' => w'.cell? ⟨gb259, 0, none⟩ = some (.int .i64 a0_0) ∧ w'.cell? ⟨gb259, 1, none⟩ = some (.slice A0_1 l0_1.length c0_1) ∧ w'.cell? ⟨gb260, 0, none⟩ = some (.slice A1_0 l1_0.length c1_0) ∧ w'.cell? ⟨gb260, 1, none⟩ = some (.int .i64 a1_1)) (ds := []) #[false, false, false, false, false, false, false, false] (by kernel_rfl) rfl rfl ⟨(blk_cell BK259.out 0).trans rfl, (blk_cell BK259.out 1).trans rfl, (blk_cell BK260.out 0).trans rfl, (blk_cell BK260.out 1).trans rfl⟩ (fun hHeld => ?_); refine with_tabW familychecklaw01_LinearAppends.tab3 familychecklaw01_LinearAppends.bits3 (fun HT_ HW_ => ?_)
        generalize wc.drew = w25 at BK259 BK260 HB hHeld ⊢
        refine take_ (i := 0) (N := some 20) (v := ?_) (a' := ?_) #[true, false, false, false, false, false, false, false] rfl rfl (take_ofW HT_.out HW_.out (by kernel_rfl)) (fun _ _ _ h => h) (Or.inl ⟨by rfl, ?_⟩) hHeld ?_ ?_
        rotate_left
        · rintro w' ⟨s0, s1, s2, s3⟩
          go_simp
          with_reducible rfl
        rotate_left
        · simp only [Act.put, List.setIfInBounds_toArray, List.set_cons_zero, List.set_cons_succ, i64_w, i32_w]
          rfl
        refine take_ (i := 2) (N := some 22) (v := ?_) (a' := ?_) #[true, false, true, false, false, false, false, false] rfl rfl (take_ofW HT_.out HW_.out (by kernel_rfl)) (fun _ _ _ h => h) (Or.inl ⟨by rfl, ?_⟩) hHeld ?_ ?_
        rotate_left
        · rintro w' ⟨s0, s1, s2, s3⟩
          go_simp
          with_reducible rfl
        rotate_left
        · simp only [Act.put, List.setIfInBounds_toArray, List.set_cons_zero, List.set_cons_succ, i64_w, i32_w]
          rfl
        refine join_ (σ := Value × Value × Nat × Nat) 2 #[true, true, true, true, true, true, false, false] (fun s_ => [(21, .agg #[.int .i64 t264, s_.1]), (23, .agg #[s_.2.1, .int .i64 t271]), (5, .pointer (some ⟨s_.2.2.1, 0, none⟩)), (6, .pointer (some ⟨s_.2.2.2, 0, none⟩))]) (fun s_ w' => (w'.cell? ⟨gb259, 0, none⟩ = some (.int .i64 a0_0) ∧ w'.cell? ⟨gb259, 1, none⟩ = some (.slice A0_1 l0_1.length c0_1) ∧ w'.cell? ⟨gb260, 0, none⟩ = some (.slice A1_0 l1_0.length c1_0) ∧ w'.cell? ⟨gb260, 1, none⟩ = some (.int .i64 a1_1)) ∧ (Kd.S k33 33 w' w.heap.size (fun k_ => some k_ ≠ (s_.2.1 : Value).ownBlock ∧ k_ ≠ gb260 ∧ k_ ≠ s_.2.2.2) s_.1 t265) ∧ (Kd.R (Kd.int .i64) 3 w' w.heap.size (fun _ => True) s_.2.1 t268) ∧ (w'.heap[gb259]? = some (.cells #[.int .i64 a0_0, .slice A0_1 l0_1.length c0_1] 24 (0, 0))) ∧ (w'.heap[gb260]? = some (.cells #[.slice A1_0 l1_0.length c1_0, .int .i64 a1_1] 33 (0, 0))) ∧ (w'.heap[s_.2.2.1]? = some (.cells #[.int .i64 0, .slice none 0 0] 24 (0, 0))) ∧ (w'.heap[s_.2.2.2]? = some (.cells #[.slice none 0 0, .int .i64 0] 33 (0, 0))) ∧ (w.heap.size ≤ s_.2.2.1) ∧ (w.heap.size ≤ s_.2.2.1) ∧ (gb259 ≠ s_.2.2.1) ∧ (s_.2.2.1 ≠ gb259) ∧ (gb260 ≠ s_.2.2.1) ∧ (s_.2.2.1 ≠ gb260) ∧ (s_.2.2.2 ≠ s_.2.2.1) ∧ (s_.2.2.1 ≠ s_.2.2.2) ∧ (w.heap.size ≤ s_.2.2.2) ∧ (w.heap.size ≤ s_.2.2.2) ∧ (gb259 ≠ s_.2.2.2) ∧ (s_.2.2.2 ≠ gb259) ∧ (gb260 ≠ s_.2.2.2) ∧ (s_.2.2.2 ≠ gb260) ∧ (Below w.heap.size w w')) ?_ ?_
        rotate_left
        · intro hJ1_3_4_5
          refine join_ (σ := Value × Value × Nat) 3 #[true, true, true, true, true, false, false, false] (fun s_ => [(21, .agg #[.int .i64 t264, s_.1]), (23, .agg #[s_.2.1, .int .i64 t271]), (5, .pointer (some ⟨s_.2.2, 0, none⟩))]) (fun s_ w' => (w'.cell? ⟨gb259, 0, none⟩ = some (.int .i64 a0_0) ∧ w'.cell? ⟨gb259, 1, none⟩ = some (.slice A0_1 l0_1.length c0_1) ∧ w'.cell? ⟨gb260, 0, none⟩ = some (.slice A1_0 l1_0.length c1_0) ∧ w'.cell? ⟨gb260, 1, none⟩ = some (.int .i64 a1_1)) ∧ (Kd.S k33 33 w' w.heap.size (fun k_ => some k_ ≠ (s_.2.1 : Value).ownBlock ∧ k_ ≠ gb260) s_.1 t265) ∧ (Kd.R (Kd.int .i64) 3 w' w.heap.size (fun _ => True) s_.2.1 t268) ∧ (w'.heap[gb259]? = some (.cells #[.int .i64 a0_0, .slice A0_1 l0_1.length c0_1] 24 (0, 0))) ∧ (w'.heap[gb260]? = some (.cells #[.slice A1_0 l1_0.length c1_0, .int .i64 a1_1] 33 (0, 0))) ∧ (w'.heap[s_.2.2]? = some (.cells #[.int .i64 0, .slice none 0 0] 24 (0, 0))) ∧ (w.heap.size ≤ s_.2.2) ∧ (w.heap.size ≤ s_.2.2) ∧ (gb259 ≠ s_.2.2) ∧ (s_.2.2 ≠ gb259) ∧ (gb260 ≠ s_.2.2) ∧ (s_.2.2 ≠ gb260) ∧ (Below w.heap.size w w')) ?_ ?_
          rotate_left
          · intro hJ1_3_4
            refine join_ (σ := Value × Value × Nat) 3 #[true, true, true, true, false, true, false, false] (fun s_ => [(21, .agg #[.int .i64 t264, s_.1]), (23, .agg #[s_.2.1, .int .i64 t271]), (6, .pointer (some ⟨s_.2.2, 0, none⟩))]) (fun s_ w' => (w'.cell? ⟨gb259, 0, none⟩ = some (.int .i64 a0_0) ∧ w'.cell? ⟨gb259, 1, none⟩ = some (.slice A0_1 l0_1.length c0_1) ∧ w'.cell? ⟨gb260, 0, none⟩ = some (.slice A1_0 l1_0.length c1_0) ∧ w'.cell? ⟨gb260, 1, none⟩ = some (.int .i64 a1_1)) ∧ (Kd.S k33 33 w' w.heap.size (fun k_ => some k_ ≠ (s_.2.1 : Value).ownBlock ∧ k_ ≠ gb260 ∧ k_ ≠ s_.2.2) s_.1 t265) ∧ (Kd.R (Kd.int .i64) 3 w' w.heap.size (fun _ => True) s_.2.1 t268) ∧ (w'.heap[gb259]? = some (.cells #[.int .i64 a0_0, .slice A0_1 l0_1.length c0_1] 24 (0, 0))) ∧ (w'.heap[gb260]? = some (.cells #[.slice A1_0 l1_0.length c1_0, .int .i64 a1_1] 33 (0, 0))) ∧ (w'.heap[s_.2.2]? = some (.cells #[.slice none 0 0, .int .i64 0] 33 (0, 0))) ∧ (w.heap.size ≤ s_.2.2) ∧ (w.heap.size ≤ s_.2.2) ∧ (gb259 ≠ s_.2.2) ∧ (s_.2.2 ≠ gb259) ∧ (gb260 ≠ s_.2.2) ∧ (s_.2.2 ≠ gb260) ∧ (Below w.heap.size w w')) ?_ ?_
            rotate_left
            · intro hJ1_3_5
              refine join_ (σ := Value × Nat × Nat) 3 #[true, true, true, false, true, true, false, false] (fun s_ => [(21, .agg #[.int .i64 t264, s_.1]), (5, .pointer (some ⟨s_.2.1, 0, none⟩)), (6, .pointer (some ⟨s_.2.2, 0, none⟩))]) (fun s_ w' => (w'.cell? ⟨gb259, 0, none⟩ = some (.int .i64 a0_0) ∧ w'.cell? ⟨gb259, 1, none⟩ = some (.slice A0_1 l0_1.length c0_1) ∧ w'.cell? ⟨gb260, 0, none⟩ = some (.slice A1_0 l1_0.length c1_0) ∧ w'.cell? ⟨gb260, 1, none⟩ = some (.int .i64 a1_1)) ∧ (Kd.S k33 33 w' w.heap.size (fun k_ => k_ ≠ gb260 ∧ k_ ≠ s_.2.2) s_.1 t265) ∧ (w'.heap[gb259]? = some (.cells #[.int .i64 a0_0, .slice A0_1 l0_1.length c0_1] 24 (0, 0))) ∧ (w'.heap[gb260]? = some (.cells #[.slice A1_0 l1_0.length c1_0, .int .i64 a1_1] 33 (0, 0))) ∧ (w'.heap[s_.2.1]? = some (.cells #[.int .i64 0, .slice none 0 0] 24 (0, 0))) ∧ (w'.heap[s_.2.2]? = some (.cells #[.slice none 0 0, .int .i64 0] 33 (0, 0))) ∧ (w.heap.size ≤ s_.2.1) ∧ (w.heap.size ≤ s_.2.1) ∧ (gb259 ≠ s_.2.1) ∧ (s_.2.1 ≠ gb259) ∧ (gb260 ≠ s_.2.1) ∧ (s_.2.1 ≠ gb260) ∧ (s_.2.2 ≠ s_.2.1) ∧ (s_.2.1 ≠ s_.2.2) ∧ (w.heap.size ≤ s_.2.2) ∧ (w.heap.size ≤ s_.2.2) ∧ (gb259 ≠ s_.2.2) ∧ (s_.2.2 ≠ gb259) ∧ (gb260 ≠ s_.2.2) ∧ (s_.2.2 ≠ gb260) ∧ (Below w.heap.size w w')) ?_ ?_
              rotate_left
              · intro hJ1_4_5
                refine join_ (σ := Value × Value) 4 #[true, true, true, true, false, false, false, false] (fun s_ => [(21, .agg #[.int .i64 t264, s_.1]), (23, .agg #[s_.2, .int .i64 t271])]) (fun s_ w' => (w'.cell? ⟨gb259, 0, none⟩ = some (.int .i64 a0_0) ∧ w'.cell? ⟨gb259, 1, none⟩ = some (.slice A0_1 l0_1.length c0_1) ∧ w'.cell? ⟨gb260, 0, none⟩ = some (.slice A1_0 l1_0.length c1_0) ∧ w'.cell? ⟨gb260, 1, none⟩ = some (.int .i64 a1_1)) ∧ (Kd.S k33 33 w' w.heap.size (fun k_ => some k_ ≠ (s_.2 : Value).ownBlock ∧ k_ ≠ gb260) s_.1 t265) ∧ (Kd.R (Kd.int .i64) 3 w' w.heap.size (fun _ => True) s_.2 t268) ∧ (w'.heap[gb259]? = some (.cells #[.int .i64 a0_0, .slice A0_1 l0_1.length c0_1] 24 (0, 0))) ∧ (w'.heap[gb260]? = some (.cells #[.slice A1_0 l1_0.length c1_0, .int .i64 a1_1] 33 (0, 0))) ∧ (Below w.heap.size w w')) ?_ ?_
                rotate_left
                · intro hJ1_3
                  refine join_ (σ := Value × Nat) 4 #[true, true, true, false, true, false, false, false] (fun s_ => [(21, .agg #[.int .i64 t264, s_.1]), (5, .pointer (some ⟨s_.2, 0, none⟩))]) (fun s_ w' => (w'.cell? ⟨gb259, 0, none⟩ = some (.int .i64 a0_0) ∧ w'.cell? ⟨gb259, 1, none⟩ = some (.slice A0_1 l0_1.length c0_1) ∧ w'.cell? ⟨gb260, 0, none⟩ = some (.slice A1_0 l1_0.length c1_0) ∧ w'.cell? ⟨gb260, 1, none⟩ = some (.int .i64 a1_1)) ∧ (Kd.S k33 33 w' w.heap.size (fun k_ => k_ ≠ gb260) s_.1 t265) ∧ (w'.heap[gb259]? = some (.cells #[.int .i64 a0_0, .slice A0_1 l0_1.length c0_1] 24 (0, 0))) ∧ (w'.heap[gb260]? = some (.cells #[.slice A1_0 l1_0.length c1_0, .int .i64 a1_1] 33 (0, 0))) ∧ (w'.heap[s_.2]? = some (.cells #[.int .i64 0, .slice none 0 0] 24 (0, 0))) ∧ (w.heap.size ≤ s_.2) ∧ (w.heap.size ≤ s_.2) ∧ (gb259 ≠ s_.2) ∧ (s_.2 ≠ gb259) ∧ (gb260 ≠ s_.2) ∧ (s_.2 ≠ gb260) ∧ (Below w.heap.size w w')) ?_ ?_
                  rotate_left
                  · intro hJ1_4
                    refine join_ (σ := Value × Nat) 4 #[true, true, true, false, false, true, false, false] (fun s_ => [(21, .agg #[.int .i64 t264, s_.1]), (6, .pointer (some ⟨s_.2, 0, none⟩))]) (fun s_ w' => (w'.cell? ⟨gb259, 0, none⟩ = some (.int .i64 a0_0) ∧ w'.cell? ⟨gb259, 1, none⟩ = some (.slice A0_1 l0_1.length c0_1) ∧ w'.cell? ⟨gb260, 0, none⟩ = some (.slice A1_0 l1_0.length c1_0) ∧ w'.cell? ⟨gb260, 1, none⟩ = some (.int .i64 a1_1)) ∧ (Kd.S k33 33 w' w.heap.size (fun k_ => k_ ≠ gb260 ∧ k_ ≠ s_.2) s_.1 t265) ∧ (w'.heap[gb259]? = some (.cells #[.int .i64 a0_0, .slice A0_1 l0_1.length c0_1] 24 (0, 0))) ∧ (w'.heap[gb260]? = some (.cells #[.slice A1_0 l1_0.length c1_0, .int .i64 a1_1] 33 (0, 0))) ∧ (w'.heap[s_.2]? = some (.cells #[.slice none 0 0, .int .i64 0] 33 (0, 0))) ∧ (w.heap.size ≤ s_.2) ∧ (w.heap.size ≤ s_.2) ∧ (gb259 ≠ s_.2) ∧ (s_.2 ≠ gb259) ∧ (gb260 ≠ s_.2) ∧ (s_.2 ≠ gb260) ∧ (Below w.heap.size w w')) ?_ ?_
                    rotate_left
                    · intro hJ1_5
                      refine join_ (σ := Nat × Nat) 4 #[true, false, true, false, true, true, false, false] (fun s_ => [(5, .pointer (some ⟨s_.1, 0, none⟩)), (6, .pointer (some ⟨s_.2, 0, none⟩))]) (fun s_ w' => (w'.cell? ⟨gb259, 0, none⟩ = some (.int .i64 a0_0) ∧ w'.cell? ⟨gb259, 1, none⟩ = some (.slice A0_1 l0_1.length c0_1) ∧ w'.cell? ⟨gb260, 0, none⟩ = some (.slice A1_0 l1_0.length c1_0) ∧ w'.cell? ⟨gb260, 1, none⟩ = some (.int .i64 a1_1)) ∧ (w'.heap[gb259]? = some (.cells #[.int .i64 a0_0, .slice A0_1 l0_1.length c0_1] 24 (0, 0))) ∧ (w'.heap[gb260]? = some (.cells #[.slice A1_0 l1_0.length c1_0, .int .i64 a1_1] 33 (0, 0))) ∧ (w'.heap[s_.1]? = some (.cells #[.int .i64 0, .slice none 0 0] 24 (0, 0))) ∧ (w'.heap[s_.2]? = some (.cells #[.slice none 0 0, .int .i64 0] 33 (0, 0))) ∧ (w.heap.size ≤ s_.1) ∧ (w.heap.size ≤ s_.1) ∧ (gb259 ≠ s_.1) ∧ (s_.1 ≠ gb259) ∧ (gb260 ≠ s_.1) ∧ (s_.1 ≠ gb260) ∧ (s_.2 ≠ s_.1) ∧ (s_.1 ≠ s_.2) ∧ (w.heap.size ≤ s_.2) ∧ (w.heap.size ≤ s_.2) ∧ (gb259 ≠ s_.2) ∧ (s_.2 ≠ gb259) ∧ (gb260 ≠ s_.2) ∧ (s_.2 ≠ gb260) ∧ (Below w.heap.size w w')) ?_ ?_
                      rotate_left
                      · intro hJ4_5
                        refine join_ (σ := Value) 5 #[true, true, true, false, false, false, false, false] (fun s_ => [(21, .agg #[.int .i64 t264, s_])]) (fun s_ w' => (w'.cell? ⟨gb259, 0, none⟩ = some (.int .i64 a0_0) ∧ w'.cell? ⟨gb259, 1, none⟩ = some (.slice A0_1 l0_1.length c0_1) ∧ w'.cell? ⟨gb260, 0, none⟩ = some (.slice A1_0 l1_0.length c1_0) ∧ w'.cell? ⟨gb260, 1, none⟩ = some (.int .i64 a1_1)) ∧ (Kd.S k33 33 w' w.heap.size (fun k_ => k_ ≠ gb260) s_ t265) ∧ (w'.heap[gb259]? = some (.cells #[.int .i64 a0_0, .slice A0_1 l0_1.length c0_1] 24 (0, 0))) ∧ (w'.heap[gb260]? = some (.cells #[.slice A1_0 l1_0.length c1_0, .int .i64 a1_1] 33 (0, 0))) ∧ (Below w.heap.size w w')) ?_ ?_
                        rotate_left
                        · intro hJ1
                          refine join_ (σ := Nat) 5 #[true, false, true, false, true, false, false, false] (fun s_ => [(5, .pointer (some ⟨s_, 0, none⟩))]) (fun s_ w' => (w'.cell? ⟨gb259, 0, none⟩ = some (.int .i64 a0_0) ∧ w'.cell? ⟨gb259, 1, none⟩ = some (.slice A0_1 l0_1.length c0_1) ∧ w'.cell? ⟨gb260, 0, none⟩ = some (.slice A1_0 l1_0.length c1_0) ∧ w'.cell? ⟨gb260, 1, none⟩ = some (.int .i64 a1_1)) ∧ (w'.heap[gb259]? = some (.cells #[.int .i64 a0_0, .slice A0_1 l0_1.length c0_1] 24 (0, 0))) ∧ (w'.heap[gb260]? = some (.cells #[.slice A1_0 l1_0.length c1_0, .int .i64 a1_1] 33 (0, 0))) ∧ (w'.heap[s_]? = some (.cells #[.int .i64 0, .slice none 0 0] 24 (0, 0))) ∧ (w.heap.size ≤ s_) ∧ (w.heap.size ≤ s_) ∧ (gb259 ≠ s_) ∧ (s_ ≠ gb259) ∧ (gb260 ≠ s_) ∧ (s_ ≠ gb260) ∧ (Below w.heap.size w w')) ?_ ?_
                          rotate_left
                          · intro hJ4
                            refine join_ (σ := Nat) 5 #[true, false, true, false, false, true, false, false] (fun s_ => [(6, .pointer (some ⟨s_, 0, none⟩))]) (fun s_ w' => (w'.cell? ⟨gb259, 0, none⟩ = some (.int .i64 a0_0) ∧ w'.cell? ⟨gb259, 1, none⟩ = some (.slice A0_1 l0_1.length c0_1) ∧ w'.cell? ⟨gb260, 0, none⟩ = some (.slice A1_0 l1_0.length c1_0) ∧ w'.cell? ⟨gb260, 1, none⟩ = some (.int .i64 a1_1)) ∧ (w'.heap[gb259]? = some (.cells #[.int .i64 a0_0, .slice A0_1 l0_1.length c0_1] 24 (0, 0))) ∧ (w'.heap[gb260]? = some (.cells #[.slice A1_0 l1_0.length c1_0, .int .i64 a1_1] 33 (0, 0))) ∧ (w'.heap[s_]? = some (.cells #[.slice none 0 0, .int .i64 0] 33 (0, 0))) ∧ (w.heap.size ≤ s_) ∧ (w.heap.size ≤ s_) ∧ (gb259 ≠ s_) ∧ (s_ ≠ gb259) ∧ (gb260 ≠ s_) ∧ (s_ ≠ gb260) ∧ (Below w.heap.size w w')) ?_ ?_
                            rotate_left
                            · intro hJ5
                              refine three_ (i := 1) (j := 4) (k := 5) (Ni := some 21) (Nj := some 5) (Nk := some 6) #[true, true, true, false, false, false, false, false] #[true, false, true, false, true, false, false, false] #[true, false, true, false, false, true, false, false] rfl rfl rfl rfl rfl rfl (three_of HT_.out (by kernel_rfl)) (by decide) (by decide) (by decide) (fun K hK => ?_) (fun K hK => ?_) (fun K hK => ?_)
                              · skip
                                refine goes_ Tryd.func17 (by kernel_rfl) rfl #[.agg #[.int .i64 a0_0, .slice A0_1 l0_1.length c0_1]] (by rfl) rfl rfl (by (try simp only [List.map_toArray, List.map_cons, List.map_nil]); first | done | rfl | (simp only [List.length_drop, List.length_take]; rfl)) ?_
                                with_reducible refine (familycheckref01_CopySystem.calls kj2 a0_0 _ _ l0_1 t264 t265 _ ?side1 ?side2 A20.out).mono ?_
                                (case side1 => repeat (first | exact (Kd.C_below HR0_1.out HB.out) | (with_reducible refine Kd.C_alloc ?_ _) | (with_reducible refine Kd.C_drewN ?_ _) | (with_reducible refine Kd.C_drew ?_)))
                                (case side2 => exact HC0_1.out)
                                rintro e w26 ⟨v266, rfl, ho0, hb⟩
                                refine ⟨_, rfl, ?_⟩
                                have n0_ := Aside0.mk (Kd.S_lower (Kd.S_newB ho0 (g := gb260) (o := .cells #[.slice A1_0 l1_0.length c1_0, .int .i64 a1_1] 33 (0, 0)) (by (with_reducible repeat (first | refine blk_drewN ?_ _ | refine blk_drew ?_ | refine blk_alloc ?_ _)); exact BK260.out)) (below_size (by repeat (first | (with_reducible first | exact HB.out | apply below_alloc | apply pw_below_drewN | apply below_drew1 | refine below_set ?_ GE259.out | refine below_set ?_ GE260.out) | exact HB.out))))
                                have n1_ := Aside0.mk (blk_below (g := gb259) (o := .cells #[.int .i64 a0_0, .slice A0_1 l0_1.length c0_1] 24 (0, 0)) (by (with_reducible repeat (first | refine blk_drewN ?_ _ | refine blk_drew ?_ | refine blk_alloc ?_ _)); exact BK259.out) hb)
                                have n2_ := Aside0.mk (blk_below (g := gb260) (o := .cells #[.slice A1_0 l1_0.length c1_0, .int .i64 a1_1] 33 (0, 0)) (by (with_reducible repeat (first | refine blk_drewN ?_ _ | refine blk_drew ?_ | refine blk_alloc ?_ _)); exact BK260.out) hb)
                                have n3_ := Aside0.mk (below_step (by repeat (first | (with_reducible first | exact HB.out | apply below_alloc | apply pw_below_drewN | apply below_drew1 | refine below_set ?_ GE259.out | refine below_set ?_ GE260.out) | exact HB.out)) hb)
                                clear BK259
                                clear BK260
                                clear HB
                                have HO267 := n0_
                                have BK259 := n1_
                                have BK260 := n2_
                                have HB := n3_
                                clear n0_ n1_ n2_ n3_
                                (try clear hb)
                                (try clear hb2)
                                (try clear hk)
                                (try clear hi)
                                (try clear ho0)
                                refine hK.out _ _ ⟨(blk_cell BK259.out 0).trans rfl, (blk_cell BK259.out 1).trans rfl, (blk_cell BK260.out 0).trans rfl, (blk_cell BK260.out 1).trans rfl⟩ (fun hHeld => ?_)
                                clear hK K
                                refine norm_ (a' := ?_) ?_ ?_
                                rotate_left
                                · show Act.put _ (some 21) _ = _
                                  simp only [Act.put, List.setIfInBounds_toArray, List.set_cons_zero, List.set_cons_succ, i64_w, i32_w]
                                  rfl
                                exact norm_ (by first | (simp only [putAll, Act.put, List.setIfInBounds_toArray, List.set_cons_zero, List.set_cons_succ]; done) | (simp only [putAll, Act.put, List.setIfInBounds_toArray, List.set_cons_zero, List.set_cons_succ]; rfl)) (hJ1 (v266) _ ⟨hHeld, (by (with_reducible repeat (first | apply Kd.S_alloc | apply Kd.S_drewN | apply Kd.S_drew)); exact Kd.S_mono HO267.out (fun _ hk => hk.2)), (by (with_reducible repeat (first | refine blk_drewN ?_ _ | refine blk_drew ?_ | refine blk_alloc ?_ _)); exact BK259.out), (by (with_reducible repeat (first | refine blk_drewN ?_ _ | refine blk_drew ?_ | refine blk_alloc ?_ _)); exact BK260.out), (by repeat (first | (with_reducible first | exact HB.out | apply below_alloc | apply pw_below_drewN | apply below_drew1 | refine below_set ?_ GE259.out | refine below_set ?_ GE260.out) | exact HB.out))⟩)
                              · skip
                                refine box_step ?hg (N := 5) ?hd (cs := #[.int .i64 0, .slice none 0 0]) (t := 24) ?hr ?_; (case hd => rfl); (case hg => rfl); (case hr => first | (go_simp; done) | (go_simp; rfl))
                                intro gb272 hg w26 hbox hb
                                have n0_ := Aside0.mk (blk_below (g := gb259) (o := .cells #[.int .i64 a0_0, .slice A0_1 l0_1.length c0_1] 24 (0, 0)) (by (with_reducible repeat (first | refine blk_drewN ?_ _ | refine blk_drew ?_ | refine blk_alloc ?_ _)); exact BK259.out) hb)
                                have n1_ := Aside0.mk (blk_below (g := gb260) (o := .cells #[.slice A1_0 l1_0.length c1_0, .int .i64 a1_1] 33 (0, 0)) (by (with_reducible repeat (first | refine blk_drewN ?_ _ | refine blk_drew ?_ | refine blk_alloc ?_ _)); exact BK260.out) hb)
                                have n2_ := Aside0.mk (below_step (by repeat (first | (with_reducible first | exact HB.out | apply below_alloc | apply pw_below_drewN | apply below_drew1 | refine below_set ?_ GE259.out | refine below_set ?_ GE260.out) | exact HB.out)) hb)
                                have n3_ := Aside0.mk (hbox)
                                have n4_ := Aside0.mk ((by rw [hg]; exact (below_size (by repeat (first | (with_reducible first | exact HB.out | apply below_alloc | apply pw_below_drewN | apply below_drew1 | refine below_set ?_ GE259.out | refine below_set ?_ GE260.out) | exact HB.out))) : w.heap.size ≤ gb272))
                                have n5_ := Aside0.mk ((by rw [hg]; exact (below_size (by repeat (first | (with_reducible first | exact HB.out | apply below_alloc | apply pw_below_drewN | apply below_drew1 | refine below_set ?_ GE259.out | refine below_set ?_ GE260.out) | exact HB.out))) : w.heap.size ≤ gb272))
                                have n6_ := Aside0.mk ((by rw [hg]; exact Nat.ne_of_lt (blk_lt (g := gb259) (o := .cells #[.int .i64 a0_0, .slice A0_1 l0_1.length c0_1] 24 (0, 0)) (by (with_reducible repeat (first | refine blk_drewN ?_ _ | refine blk_drew ?_ | refine blk_alloc ?_ _)); exact BK259.out)) : gb259 ≠ gb272))
                                have n7_ := Aside0.mk ((by rw [hg]; exact Nat.ne_of_gt (blk_lt (g := gb259) (o := .cells #[.int .i64 a0_0, .slice A0_1 l0_1.length c0_1] 24 (0, 0)) (by (with_reducible repeat (first | refine blk_drewN ?_ _ | refine blk_drew ?_ | refine blk_alloc ?_ _)); exact BK259.out)) : gb272 ≠ gb259))
                                have n8_ := Aside0.mk ((by rw [hg]; exact Nat.ne_of_lt (blk_lt (g := gb260) (o := .cells #[.slice A1_0 l1_0.length c1_0, .int .i64 a1_1] 33 (0, 0)) (by (with_reducible repeat (first | refine blk_drewN ?_ _ | refine blk_drew ?_ | refine blk_alloc ?_ _)); exact BK260.out)) : gb260 ≠ gb272))
                                have n9_ := Aside0.mk ((by rw [hg]; exact Nat.ne_of_gt (blk_lt (g := gb260) (o := .cells #[.slice A1_0 l1_0.length c1_0, .int .i64 a1_1] 33 (0, 0)) (by (with_reducible repeat (first | refine blk_drewN ?_ _ | refine blk_drew ?_ | refine blk_alloc ?_ _)); exact BK260.out)) : gb272 ≠ gb260))
                                clear BK259
                                clear BK260
                                clear HB
                                have BK259 := n0_
                                have BK260 := n1_
                                have HB := n2_
                                have BK272 := n3_
                                have GW272 := n4_
                                have GE272 := n5_
                                have NB259_272 := n6_
                                have NB272_259 := n7_
                                have NB260_272 := n8_
                                have NB272_260 := n9_
                                clear n0_ n1_ n2_ n3_ n4_ n5_ n6_ n7_ n8_ n9_
                                clear hb hbox hg
                                refine hK.out _ _ ⟨(blk_cell BK259.out 0).trans rfl, (blk_cell BK259.out 1).trans rfl, (blk_cell BK260.out 0).trans rfl, (blk_cell BK260.out 1).trans rfl⟩ (fun hHeld => ?_)
                                clear hK K
                                refine norm_ (a' := ?_) ?_ ?_
                                rotate_left
                                · show Act.put _ (some 5) _ = _
                                  simp only [Act.put, List.setIfInBounds_toArray, List.set_cons_zero, List.set_cons_succ, i64_w, i32_w]
                                  rfl
                                exact norm_ (by first | (simp only [putAll, Act.put, List.setIfInBounds_toArray, List.set_cons_zero, List.set_cons_succ]; done) | (simp only [putAll, Act.put, List.setIfInBounds_toArray, List.set_cons_zero, List.set_cons_succ]; rfl)) (hJ4 (gb272) _ ⟨hHeld, (by (with_reducible repeat (first | refine blk_drewN ?_ _ | refine blk_drew ?_ | refine blk_alloc ?_ _)); exact BK259.out), (by (with_reducible repeat (first | refine blk_drewN ?_ _ | refine blk_drew ?_ | refine blk_alloc ?_ _)); exact BK260.out), (by (with_reducible repeat (first | refine blk_drewN ?_ _ | refine blk_drew ?_ | refine blk_alloc ?_ _)); exact BK272.out), GW272.out, GE272.out, NB259_272.out, NB272_259.out, NB260_272.out, NB272_260.out, (by repeat (first | (with_reducible first | exact HB.out | apply below_alloc | apply pw_below_drewN | apply below_drew1 | refine below_set ?_ GE259.out | refine below_set ?_ GE260.out | refine below_set ?_ GE272.out) | exact HB.out))⟩)
                              · skip
                                refine box_step ?hg (N := 6) ?hd (cs := #[.slice none 0 0, .int .i64 0]) (t := 33) ?hr ?_; (case hd => rfl); (case hg => rfl); (case hr => first | (go_simp; done) | (go_simp; rfl))
                                intro gb273 hg w26 hbox hb
                                have n0_ := Aside0.mk (blk_below (g := gb259) (o := .cells #[.int .i64 a0_0, .slice A0_1 l0_1.length c0_1] 24 (0, 0)) (by (with_reducible repeat (first | refine blk_drewN ?_ _ | refine blk_drew ?_ | refine blk_alloc ?_ _)); exact BK259.out) hb)
                                have n1_ := Aside0.mk (blk_below (g := gb260) (o := .cells #[.slice A1_0 l1_0.length c1_0, .int .i64 a1_1] 33 (0, 0)) (by (with_reducible repeat (first | refine blk_drewN ?_ _ | refine blk_drew ?_ | refine blk_alloc ?_ _)); exact BK260.out) hb)
                                have n2_ := Aside0.mk (below_step (by repeat (first | (with_reducible first | exact HB.out | apply below_alloc | apply pw_below_drewN | apply below_drew1 | refine below_set ?_ GE259.out | refine below_set ?_ GE260.out) | exact HB.out)) hb)
                                have n3_ := Aside0.mk (hbox)
                                have n4_ := Aside0.mk ((by rw [hg]; exact (below_size (by repeat (first | (with_reducible first | exact HB.out | apply below_alloc | apply pw_below_drewN | apply below_drew1 | refine below_set ?_ GE259.out | refine below_set ?_ GE260.out) | exact HB.out))) : w.heap.size ≤ gb273))
                                have n5_ := Aside0.mk ((by rw [hg]; exact (below_size (by repeat (first | (with_reducible first | exact HB.out | apply below_alloc | apply pw_below_drewN | apply below_drew1 | refine below_set ?_ GE259.out | refine below_set ?_ GE260.out) | exact HB.out))) : w.heap.size ≤ gb273))
                                have n6_ := Aside0.mk ((by rw [hg]; exact Nat.ne_of_lt (blk_lt (g := gb259) (o := .cells #[.int .i64 a0_0, .slice A0_1 l0_1.length c0_1] 24 (0, 0)) (by (with_reducible repeat (first | refine blk_drewN ?_ _ | refine blk_drew ?_ | refine blk_alloc ?_ _)); exact BK259.out)) : gb259 ≠ gb273))
                                have n7_ := Aside0.mk ((by rw [hg]; exact Nat.ne_of_gt (blk_lt (g := gb259) (o := .cells #[.int .i64 a0_0, .slice A0_1 l0_1.length c0_1] 24 (0, 0)) (by (with_reducible repeat (first | refine blk_drewN ?_ _ | refine blk_drew ?_ | refine blk_alloc ?_ _)); exact BK259.out)) : gb273 ≠ gb259))
                                have n8_ := Aside0.mk ((by rw [hg]; exact Nat.ne_of_lt (blk_lt (g := gb260) (o := .cells #[.slice A1_0 l1_0.length c1_0, .int .i64 a1_1] 33 (0, 0)) (by (with_reducible repeat (first | refine blk_drewN ?_ _ | refine blk_drew ?_ | refine blk_alloc ?_ _)); exact BK260.out)) : gb260 ≠ gb273))
                                have n9_ := Aside0.mk ((by rw [hg]; exact Nat.ne_of_gt (blk_lt (g := gb260) (o := .cells #[.slice A1_0 l1_0.length c1_0, .int .i64 a1_1] 33 (0, 0)) (by (with_reducible repeat (first | refine blk_drewN ?_ _ | refine blk_drew ?_ | refine blk_alloc ?_ _)); exact BK260.out)) : gb273 ≠ gb260))
                                clear BK259
                                clear BK260
                                clear HB
                                have BK259 := n0_
                                have BK260 := n1_
                                have HB := n2_
                                have BK273 := n3_
                                have GW273 := n4_
                                have GE273 := n5_
                                have NB259_273 := n6_
                                have NB273_259 := n7_
                                have NB260_273 := n8_
                                have NB273_260 := n9_
                                clear n0_ n1_ n2_ n3_ n4_ n5_ n6_ n7_ n8_ n9_
                                clear hb hbox hg
                                refine hK.out _ _ ⟨(blk_cell BK259.out 0).trans rfl, (blk_cell BK259.out 1).trans rfl, (blk_cell BK260.out 0).trans rfl, (blk_cell BK260.out 1).trans rfl⟩ (fun hHeld => ?_)
                                clear hK K
                                refine norm_ (a' := ?_) ?_ ?_
                                rotate_left
                                · show Act.put _ (some 6) _ = _
                                  simp only [Act.put, List.setIfInBounds_toArray, List.set_cons_zero, List.set_cons_succ, i64_w, i32_w]
                                  rfl
                                exact norm_ (by first | (simp only [putAll, Act.put, List.setIfInBounds_toArray, List.set_cons_zero, List.set_cons_succ]; done) | (simp only [putAll, Act.put, List.setIfInBounds_toArray, List.set_cons_zero, List.set_cons_succ]; rfl)) (hJ5 (gb273) _ ⟨hHeld, (by (with_reducible repeat (first | refine blk_drewN ?_ _ | refine blk_drew ?_ | refine blk_alloc ?_ _)); exact BK259.out), (by (with_reducible repeat (first | refine blk_drewN ?_ _ | refine blk_drew ?_ | refine blk_alloc ?_ _)); exact BK260.out), (by (with_reducible repeat (first | refine blk_drewN ?_ _ | refine blk_drew ?_ | refine blk_alloc ?_ _)); exact BK273.out), GW273.out, GE273.out, NB259_273.out, NB273_259.out, NB260_273.out, NB273_260.out, (by repeat (first | (with_reducible first | exact HB.out | apply below_alloc | apply pw_below_drewN | apply below_drew1 | refine below_set ?_ GE259.out | refine below_set ?_ GE260.out | refine below_set ?_ GE273.out) | exact HB.out))⟩)
                            · skip
                              rintro gb273 w27 ⟨hS_, h0_, h1_, h2_, h3_, h4_, h5_, h6_, h7_, h8_, h9_⟩
                              have n0_ : Aside0 (w27.heap[gb259]? = some (.cells #[.int .i64 a0_0, .slice A0_1 l0_1.length c0_1] 24 (0, 0))) := ⟨h0_⟩
                              have n1_ : Aside0 (w27.heap[gb260]? = some (.cells #[.slice A1_0 l1_0.length c1_0, .int .i64 a1_1] 33 (0, 0))) := ⟨h1_⟩
                              have n2_ : Aside0 (w27.heap[gb273]? = some (.cells #[.slice none 0 0, .int .i64 0] 33 (0, 0))) := ⟨h2_⟩
                              have n3_ : Aside0 (w.heap.size ≤ gb273) := ⟨h3_⟩
                              have n4_ : Aside0 (w.heap.size ≤ gb273) := ⟨h4_⟩
                              have n5_ : Aside0 (gb259 ≠ gb273) := ⟨h5_⟩
                              have n6_ : Aside0 (gb273 ≠ gb259) := ⟨h6_⟩
                              have n7_ : Aside0 (gb260 ≠ gb273) := ⟨h7_⟩
                              have n8_ : Aside0 (gb273 ≠ gb260) := ⟨h8_⟩
                              have n9_ : Aside0 (Below w.heap.size w w27) := ⟨h9_⟩
                              clear BK259
                              clear BK260
                              clear HB
                              clear h0_ h1_ h2_ h3_ h4_ h5_ h6_ h7_ h8_ h9_
                              have BK259 := n0_
                              have BK260 := n1_
                              have BK273 := n2_
                              have GW273 := n3_
                              have GE273 := n4_
                              have NB259_273 := n5_
                              have NB273_259 := n6_
                              have NB260_273 := n7_
                              have NB273_260 := n8_
                              have HB := n9_
                              clear n0_ n1_ n2_ n3_ n4_ n5_ n6_ n7_ n8_ n9_
                              have hHeld : w27.cell? ⟨gb259, 0, none⟩ = some (.int .i64 a0_0) ∧ w27.cell? ⟨gb259, 1, none⟩ = some (.slice A0_1 l0_1.length c0_1) ∧ w27.cell? ⟨gb260, 0, none⟩ = some (.slice A1_0 l1_0.length c1_0) ∧ w27.cell? ⟨gb260, 1, none⟩ = some (.int .i64 a1_1) := hS_
                              refine norm_ (a' := ?_) ?_ ?_
                              rotate_left
                              · simp only [putAll, Act.put, List.setIfInBounds_toArray, List.set_cons_zero, List.set_cons_succ]
                                rfl
                              refine two_ (i := 1) (j := 4) (Ni := some 21) (Nj := some 5) #[true, true, true, false, false, true, false, false] #[true, false, true, false, true, true, false, false] rfl rfl rfl rfl (two_of HT_.out (by kernel_rfl)) (by decide) (by decide) (fun K hK => ?_) (fun K hK => ?_)
                              · skip
                                refine goes_ Tryd.func17 (by kernel_rfl) rfl #[.agg #[.int .i64 a0_0, .slice A0_1 l0_1.length c0_1]] (by rfl) rfl rfl (by (try simp only [List.map_toArray, List.map_cons, List.map_nil]); first | done | rfl | (simp only [List.length_drop, List.length_take]; rfl)) ?_
                                with_reducible refine (familycheckref01_CopySystem.calls kj2 a0_0 _ _ l0_1 t264 t265 _ ?side1 ?side2 A20.out).mono ?_
                                (case side1 => repeat (first | exact (Kd.C_below HR0_1.out HB.out) | (with_reducible refine Kd.C_alloc ?_ _) | (with_reducible refine Kd.C_drewN ?_ _) | (with_reducible refine Kd.C_drew ?_)))
                                (case side2 => exact HC0_1.out)
                                rintro e w28 ⟨v266, rfl, ho0, hb⟩
                                refine ⟨_, rfl, ?_⟩
                                have n0_ := Aside0.mk (Kd.S_lower (Kd.S_newB (Kd.S_newB ho0 (g := gb260) (o := .cells #[.slice A1_0 l1_0.length c1_0, .int .i64 a1_1] 33 (0, 0)) (by (with_reducible repeat (first | refine blk_drewN ?_ _ | refine blk_drew ?_ | refine blk_alloc ?_ _)); exact BK260.out)) (g := gb273) (o := .cells #[.slice none 0 0, .int .i64 0] 33 (0, 0)) (by (with_reducible repeat (first | refine blk_drewN ?_ _ | refine blk_drew ?_ | refine blk_alloc ?_ _)); exact BK273.out)) (below_size (by repeat (first | (with_reducible first | exact HB.out | apply below_alloc | apply pw_below_drewN | apply below_drew1 | refine below_set ?_ GE259.out | refine below_set ?_ GE260.out | refine below_set ?_ GE273.out) | exact HB.out))))
                                have n1_ := Aside0.mk (blk_below (g := gb259) (o := .cells #[.int .i64 a0_0, .slice A0_1 l0_1.length c0_1] 24 (0, 0)) (by (with_reducible repeat (first | refine blk_drewN ?_ _ | refine blk_drew ?_ | refine blk_alloc ?_ _)); exact BK259.out) hb)
                                have n2_ := Aside0.mk (blk_below (g := gb260) (o := .cells #[.slice A1_0 l1_0.length c1_0, .int .i64 a1_1] 33 (0, 0)) (by (with_reducible repeat (first | refine blk_drewN ?_ _ | refine blk_drew ?_ | refine blk_alloc ?_ _)); exact BK260.out) hb)
                                have n3_ := Aside0.mk (blk_below (g := gb273) (o := .cells #[.slice none 0 0, .int .i64 0] 33 (0, 0)) (by (with_reducible repeat (first | refine blk_drewN ?_ _ | refine blk_drew ?_ | refine blk_alloc ?_ _)); exact BK273.out) hb)
                                have n4_ := Aside0.mk (below_step (by repeat (first | (with_reducible first | exact HB.out | apply below_alloc | apply pw_below_drewN | apply below_drew1 | refine below_set ?_ GE259.out | refine below_set ?_ GE260.out | refine below_set ?_ GE273.out) | exact HB.out)) hb)
                                clear BK259
                                clear BK260
                                clear BK273
                                clear HB
                                have HO267 := n0_
                                have BK259 := n1_
                                have BK260 := n2_
                                have BK273 := n3_
                                have HB := n4_
                                clear n0_ n1_ n2_ n3_ n4_
                                (try clear hb)
                                (try clear hb2)
                                (try clear hk)
                                (try clear hi)
                                (try clear ho0)
                                refine hK.out _ _ ⟨(blk_cell BK259.out 0).trans rfl, (blk_cell BK259.out 1).trans rfl, (blk_cell BK260.out 0).trans rfl, (blk_cell BK260.out 1).trans rfl⟩ (fun hHeld => ?_)
                                clear hK K
                                refine norm_ (a' := ?_) ?_ ?_
                                rotate_left
                                · show Act.put _ (some 21) _ = _
                                  simp only [Act.put, List.setIfInBounds_toArray, List.set_cons_zero, List.set_cons_succ, i64_w, i32_w]
                                  rfl
                                exact norm_ (by first | (simp only [putAll, Act.put, List.setIfInBounds_toArray, List.set_cons_zero, List.set_cons_succ]; done) | (simp only [putAll, Act.put, List.setIfInBounds_toArray, List.set_cons_zero, List.set_cons_succ]; rfl)) (hJ1_5 (v266, gb273) _ ⟨hHeld, (by (with_reducible repeat (first | apply Kd.S_alloc | apply Kd.S_drewN | apply Kd.S_drew)); exact Kd.S_mono HO267.out (fun _ hk => ⟨hk.1.2, hk.2⟩)), (by (with_reducible repeat (first | refine blk_drewN ?_ _ | refine blk_drew ?_ | refine blk_alloc ?_ _)); exact BK259.out), (by (with_reducible repeat (first | refine blk_drewN ?_ _ | refine blk_drew ?_ | refine blk_alloc ?_ _)); exact BK260.out), (by (with_reducible repeat (first | refine blk_drewN ?_ _ | refine blk_drew ?_ | refine blk_alloc ?_ _)); exact BK273.out), GW273.out, GE273.out, NB259_273.out, NB273_259.out, NB260_273.out, NB273_260.out, (by repeat (first | (with_reducible first | exact HB.out | apply below_alloc | apply pw_below_drewN | apply below_drew1 | refine below_set ?_ GE259.out | refine below_set ?_ GE260.out | refine below_set ?_ GE273.out) | exact HB.out))⟩)
                              · skip
                                refine box_step ?hg (N := 5) ?hd (cs := #[.int .i64 0, .slice none 0 0]) (t := 24) ?hr ?_; (case hd => rfl); (case hg => rfl); (case hr => first | (go_simp; done) | (go_simp; rfl))
                                intro gb272 hg w28 hbox hb
                                have n0_ := Aside0.mk (blk_below (g := gb259) (o := .cells #[.int .i64 a0_0, .slice A0_1 l0_1.length c0_1] 24 (0, 0)) (by (with_reducible repeat (first | refine blk_drewN ?_ _ | refine blk_drew ?_ | refine blk_alloc ?_ _)); exact BK259.out) hb)
                                have n1_ := Aside0.mk (blk_below (g := gb260) (o := .cells #[.slice A1_0 l1_0.length c1_0, .int .i64 a1_1] 33 (0, 0)) (by (with_reducible repeat (first | refine blk_drewN ?_ _ | refine blk_drew ?_ | refine blk_alloc ?_ _)); exact BK260.out) hb)
                                have n2_ := Aside0.mk (blk_below (g := gb273) (o := .cells #[.slice none 0 0, .int .i64 0] 33 (0, 0)) (by (with_reducible repeat (first | refine blk_drewN ?_ _ | refine blk_drew ?_ | refine blk_alloc ?_ _)); exact BK273.out) hb)
                                have n3_ := Aside0.mk (below_step (by repeat (first | (with_reducible first | exact HB.out | apply below_alloc | apply pw_below_drewN | apply below_drew1 | refine below_set ?_ GE259.out | refine below_set ?_ GE260.out | refine below_set ?_ GE273.out) | exact HB.out)) hb)
                                have n4_ := Aside0.mk (hbox)
                                have n5_ := Aside0.mk ((by rw [hg]; exact (below_size (by repeat (first | (with_reducible first | exact HB.out | apply below_alloc | apply pw_below_drewN | apply below_drew1 | refine below_set ?_ GE259.out | refine below_set ?_ GE260.out | refine below_set ?_ GE273.out) | exact HB.out))) : w.heap.size ≤ gb272))
                                have n6_ := Aside0.mk ((by rw [hg]; exact (below_size (by repeat (first | (with_reducible first | exact HB.out | apply below_alloc | apply pw_below_drewN | apply below_drew1 | refine below_set ?_ GE259.out | refine below_set ?_ GE260.out | refine below_set ?_ GE273.out) | exact HB.out))) : w.heap.size ≤ gb272))
                                have n7_ := Aside0.mk ((by rw [hg]; exact Nat.ne_of_lt (blk_lt (g := gb259) (o := .cells #[.int .i64 a0_0, .slice A0_1 l0_1.length c0_1] 24 (0, 0)) (by (with_reducible repeat (first | refine blk_drewN ?_ _ | refine blk_drew ?_ | refine blk_alloc ?_ _)); exact BK259.out)) : gb259 ≠ gb272))
                                have n8_ := Aside0.mk ((by rw [hg]; exact Nat.ne_of_gt (blk_lt (g := gb259) (o := .cells #[.int .i64 a0_0, .slice A0_1 l0_1.length c0_1] 24 (0, 0)) (by (with_reducible repeat (first | refine blk_drewN ?_ _ | refine blk_drew ?_ | refine blk_alloc ?_ _)); exact BK259.out)) : gb272 ≠ gb259))
                                have n9_ := Aside0.mk ((by rw [hg]; exact Nat.ne_of_lt (blk_lt (g := gb260) (o := .cells #[.slice A1_0 l1_0.length c1_0, .int .i64 a1_1] 33 (0, 0)) (by (with_reducible repeat (first | refine blk_drewN ?_ _ | refine blk_drew ?_ | refine blk_alloc ?_ _)); exact BK260.out)) : gb260 ≠ gb272))
                                have n10_ := Aside0.mk ((by rw [hg]; exact Nat.ne_of_gt (blk_lt (g := gb260) (o := .cells #[.slice A1_0 l1_0.length c1_0, .int .i64 a1_1] 33 (0, 0)) (by (with_reducible repeat (first | refine blk_drewN ?_ _ | refine blk_drew ?_ | refine blk_alloc ?_ _)); exact BK260.out)) : gb272 ≠ gb260))
                                have n11_ := Aside0.mk ((by rw [hg]; exact Nat.ne_of_lt (blk_lt (g := gb273) (o := .cells #[.slice none 0 0, .int .i64 0] 33 (0, 0)) (by (with_reducible repeat (first | refine blk_drewN ?_ _ | refine blk_drew ?_ | refine blk_alloc ?_ _)); exact BK273.out)) : gb273 ≠ gb272))
                                have n12_ := Aside0.mk ((by rw [hg]; exact Nat.ne_of_gt (blk_lt (g := gb273) (o := .cells #[.slice none 0 0, .int .i64 0] 33 (0, 0)) (by (with_reducible repeat (first | refine blk_drewN ?_ _ | refine blk_drew ?_ | refine blk_alloc ?_ _)); exact BK273.out)) : gb272 ≠ gb273))
                                clear BK259
                                clear BK260
                                clear BK273
                                clear HB
                                have BK259 := n0_
                                have BK260 := n1_
                                have BK273 := n2_
                                have HB := n3_
                                have BK272 := n4_
                                have GW272 := n5_
                                have GE272 := n6_
                                have NB259_272 := n7_
                                have NB272_259 := n8_
                                have NB260_272 := n9_
                                have NB272_260 := n10_
                                have NB273_272 := n11_
                                have NB272_273 := n12_
                                clear n0_ n1_ n2_ n3_ n4_ n5_ n6_ n7_ n8_ n9_ n10_ n11_ n12_
                                clear hb hbox hg
                                refine hK.out _ _ ⟨(blk_cell BK259.out 0).trans rfl, (blk_cell BK259.out 1).trans rfl, (blk_cell BK260.out 0).trans rfl, (blk_cell BK260.out 1).trans rfl⟩ (fun hHeld => ?_)
                                clear hK K
                                refine norm_ (a' := ?_) ?_ ?_
                                rotate_left
                                · show Act.put _ (some 5) _ = _
                                  simp only [Act.put, List.setIfInBounds_toArray, List.set_cons_zero, List.set_cons_succ, i64_w, i32_w]
                                  rfl
                                exact norm_ (by first | (simp only [putAll, Act.put, List.setIfInBounds_toArray, List.set_cons_zero, List.set_cons_succ]; done) | (simp only [putAll, Act.put, List.setIfInBounds_toArray, List.set_cons_zero, List.set_cons_succ]; rfl)) (hJ4_5 (gb272, gb273) _ ⟨hHeld, (by (with_reducible repeat (first | refine blk_drewN ?_ _ | refine blk_drew ?_ | refine blk_alloc ?_ _)); exact BK259.out), (by (with_reducible repeat (first | refine blk_drewN ?_ _ | refine blk_drew ?_ | refine blk_alloc ?_ _)); exact BK260.out), (by (with_reducible repeat (first | refine blk_drewN ?_ _ | refine blk_drew ?_ | refine blk_alloc ?_ _)); exact BK272.out), (by (with_reducible repeat (first | refine blk_drewN ?_ _ | refine blk_drew ?_ | refine blk_alloc ?_ _)); exact BK273.out), GW272.out, GE272.out, NB259_272.out, NB272_259.out, NB260_272.out, NB272_260.out, NB273_272.out, NB272_273.out, GW273.out, GE273.out, NB259_273.out, NB273_259.out, NB260_273.out, NB273_260.out, (by repeat (first | (with_reducible first | exact HB.out | apply below_alloc | apply pw_below_drewN | apply below_drew1 | refine below_set ?_ GE259.out | refine below_set ?_ GE260.out | refine below_set ?_ GE273.out | refine below_set ?_ GE272.out) | exact HB.out))⟩)
                          · skip
                            rintro gb272 w27 ⟨hS_, h0_, h1_, h2_, h3_, h4_, h5_, h6_, h7_, h8_, h9_⟩
                            have n0_ : Aside0 (w27.heap[gb259]? = some (.cells #[.int .i64 a0_0, .slice A0_1 l0_1.length c0_1] 24 (0, 0))) := ⟨h0_⟩
                            have n1_ : Aside0 (w27.heap[gb260]? = some (.cells #[.slice A1_0 l1_0.length c1_0, .int .i64 a1_1] 33 (0, 0))) := ⟨h1_⟩
                            have n2_ : Aside0 (w27.heap[gb272]? = some (.cells #[.int .i64 0, .slice none 0 0] 24 (0, 0))) := ⟨h2_⟩
                            have n3_ : Aside0 (w.heap.size ≤ gb272) := ⟨h3_⟩
                            have n4_ : Aside0 (w.heap.size ≤ gb272) := ⟨h4_⟩
                            have n5_ : Aside0 (gb259 ≠ gb272) := ⟨h5_⟩
                            have n6_ : Aside0 (gb272 ≠ gb259) := ⟨h6_⟩
                            have n7_ : Aside0 (gb260 ≠ gb272) := ⟨h7_⟩
                            have n8_ : Aside0 (gb272 ≠ gb260) := ⟨h8_⟩
                            have n9_ : Aside0 (Below w.heap.size w w27) := ⟨h9_⟩
                            clear BK259
                            clear BK260
                            clear HB
                            clear h0_ h1_ h2_ h3_ h4_ h5_ h6_ h7_ h8_ h9_
                            have BK259 := n0_
                            have BK260 := n1_
                            have BK272 := n2_
                            have GW272 := n3_
                            have GE272 := n4_
                            have NB259_272 := n5_
                            have NB272_259 := n6_
                            have NB260_272 := n7_
                            have NB272_260 := n8_
                            have HB := n9_
                            clear n0_ n1_ n2_ n3_ n4_ n5_ n6_ n7_ n8_ n9_
                            have hHeld : w27.cell? ⟨gb259, 0, none⟩ = some (.int .i64 a0_0) ∧ w27.cell? ⟨gb259, 1, none⟩ = some (.slice A0_1 l0_1.length c0_1) ∧ w27.cell? ⟨gb260, 0, none⟩ = some (.slice A1_0 l1_0.length c1_0) ∧ w27.cell? ⟨gb260, 1, none⟩ = some (.int .i64 a1_1) := hS_
                            refine norm_ (a' := ?_) ?_ ?_
                            rotate_left
                            · simp only [putAll, Act.put, List.setIfInBounds_toArray, List.set_cons_zero, List.set_cons_succ]
                              rfl
                            refine two_ (i := 1) (j := 5) (Ni := some 21) (Nj := some 6) #[true, true, true, false, true, false, false, false] #[true, false, true, false, true, true, false, false] rfl rfl rfl rfl (two_of HT_.out (by kernel_rfl)) (by decide) (by decide) (fun K hK => ?_) (fun K hK => ?_)
                            · skip
                              refine goes_ Tryd.func17 (by kernel_rfl) rfl #[.agg #[.int .i64 a0_0, .slice A0_1 l0_1.length c0_1]] (by rfl) rfl rfl (by (try simp only [List.map_toArray, List.map_cons, List.map_nil]); first | done | rfl | (simp only [List.length_drop, List.length_take]; rfl)) ?_
                              with_reducible refine (familycheckref01_CopySystem.calls kj2 a0_0 _ _ l0_1 t264 t265 _ ?side1 ?side2 A20.out).mono ?_
                              (case side1 => repeat (first | exact (Kd.C_below HR0_1.out HB.out) | (with_reducible refine Kd.C_alloc ?_ _) | (with_reducible refine Kd.C_drewN ?_ _) | (with_reducible refine Kd.C_drew ?_)))
                              (case side2 => exact HC0_1.out)
                              rintro e w28 ⟨v266, rfl, ho0, hb⟩
                              refine ⟨_, rfl, ?_⟩
                              have n0_ := Aside0.mk (Kd.S_lower (Kd.S_newB ho0 (g := gb260) (o := .cells #[.slice A1_0 l1_0.length c1_0, .int .i64 a1_1] 33 (0, 0)) (by (with_reducible repeat (first | refine blk_drewN ?_ _ | refine blk_drew ?_ | refine blk_alloc ?_ _)); exact BK260.out)) (below_size (by repeat (first | (with_reducible first | exact HB.out | apply below_alloc | apply pw_below_drewN | apply below_drew1 | refine below_set ?_ GE259.out | refine below_set ?_ GE260.out | refine below_set ?_ GE272.out) | exact HB.out))))
                              have n1_ := Aside0.mk (blk_below (g := gb259) (o := .cells #[.int .i64 a0_0, .slice A0_1 l0_1.length c0_1] 24 (0, 0)) (by (with_reducible repeat (first | refine blk_drewN ?_ _ | refine blk_drew ?_ | refine blk_alloc ?_ _)); exact BK259.out) hb)
                              have n2_ := Aside0.mk (blk_below (g := gb260) (o := .cells #[.slice A1_0 l1_0.length c1_0, .int .i64 a1_1] 33 (0, 0)) (by (with_reducible repeat (first | refine blk_drewN ?_ _ | refine blk_drew ?_ | refine blk_alloc ?_ _)); exact BK260.out) hb)
                              have n3_ := Aside0.mk (blk_below (g := gb272) (o := .cells #[.int .i64 0, .slice none 0 0] 24 (0, 0)) (by (with_reducible repeat (first | refine blk_drewN ?_ _ | refine blk_drew ?_ | refine blk_alloc ?_ _)); exact BK272.out) hb)
                              have n4_ := Aside0.mk (below_step (by repeat (first | (with_reducible first | exact HB.out | apply below_alloc | apply pw_below_drewN | apply below_drew1 | refine below_set ?_ GE259.out | refine below_set ?_ GE260.out | refine below_set ?_ GE272.out) | exact HB.out)) hb)
                              clear BK259
                              clear BK260
                              clear BK272
                              clear HB
                              have HO267 := n0_
                              have BK259 := n1_
                              have BK260 := n2_
                              have BK272 := n3_
                              have HB := n4_
                              clear n0_ n1_ n2_ n3_ n4_
                              (try clear hb)
                              (try clear hb2)
                              (try clear hk)
                              (try clear hi)
                              (try clear ho0)
                              refine hK.out _ _ ⟨(blk_cell BK259.out 0).trans rfl, (blk_cell BK259.out 1).trans rfl, (blk_cell BK260.out 0).trans rfl, (blk_cell BK260.out 1).trans rfl⟩ (fun hHeld => ?_)
                              clear hK K
                              refine norm_ (a' := ?_) ?_ ?_
                              rotate_left
                              · show Act.put _ (some 21) _ = _
                                simp only [Act.put, List.setIfInBounds_toArray, List.set_cons_zero, List.set_cons_succ, i64_w, i32_w]
                                rfl
                              exact norm_ (by first | (simp only [putAll, Act.put, List.setIfInBounds_toArray, List.set_cons_zero, List.set_cons_succ]; done) | (simp only [putAll, Act.put, List.setIfInBounds_toArray, List.set_cons_zero, List.set_cons_succ]; rfl)) (hJ1_4 (v266, gb272) _ ⟨hHeld, (by (with_reducible repeat (first | apply Kd.S_alloc | apply Kd.S_drewN | apply Kd.S_drew)); exact Kd.S_mono HO267.out (fun _ hk => hk.2)), (by (with_reducible repeat (first | refine blk_drewN ?_ _ | refine blk_drew ?_ | refine blk_alloc ?_ _)); exact BK259.out), (by (with_reducible repeat (first | refine blk_drewN ?_ _ | refine blk_drew ?_ | refine blk_alloc ?_ _)); exact BK260.out), (by (with_reducible repeat (first | refine blk_drewN ?_ _ | refine blk_drew ?_ | refine blk_alloc ?_ _)); exact BK272.out), GW272.out, GE272.out, NB259_272.out, NB272_259.out, NB260_272.out, NB272_260.out, (by repeat (first | (with_reducible first | exact HB.out | apply below_alloc | apply pw_below_drewN | apply below_drew1 | refine below_set ?_ GE259.out | refine below_set ?_ GE260.out | refine below_set ?_ GE272.out) | exact HB.out))⟩)
                            · skip
                              refine box_step ?hg (N := 6) ?hd (cs := #[.slice none 0 0, .int .i64 0]) (t := 33) ?hr ?_; (case hd => rfl); (case hg => rfl); (case hr => first | (go_simp; done) | (go_simp; rfl))
                              intro gb273 hg w28 hbox hb
                              have n0_ := Aside0.mk (blk_below (g := gb259) (o := .cells #[.int .i64 a0_0, .slice A0_1 l0_1.length c0_1] 24 (0, 0)) (by (with_reducible repeat (first | refine blk_drewN ?_ _ | refine blk_drew ?_ | refine blk_alloc ?_ _)); exact BK259.out) hb)
                              have n1_ := Aside0.mk (blk_below (g := gb260) (o := .cells #[.slice A1_0 l1_0.length c1_0, .int .i64 a1_1] 33 (0, 0)) (by (with_reducible repeat (first | refine blk_drewN ?_ _ | refine blk_drew ?_ | refine blk_alloc ?_ _)); exact BK260.out) hb)
                              have n2_ := Aside0.mk (blk_below (g := gb272) (o := .cells #[.int .i64 0, .slice none 0 0] 24 (0, 0)) (by (with_reducible repeat (first | refine blk_drewN ?_ _ | refine blk_drew ?_ | refine blk_alloc ?_ _)); exact BK272.out) hb)
                              have n3_ := Aside0.mk (below_step (by repeat (first | (with_reducible first | exact HB.out | apply below_alloc | apply pw_below_drewN | apply below_drew1 | refine below_set ?_ GE259.out | refine below_set ?_ GE260.out | refine below_set ?_ GE272.out) | exact HB.out)) hb)
                              have n4_ := Aside0.mk (hbox)
                              have n5_ := Aside0.mk ((by rw [hg]; exact (below_size (by repeat (first | (with_reducible first | exact HB.out | apply below_alloc | apply pw_below_drewN | apply below_drew1 | refine below_set ?_ GE259.out | refine below_set ?_ GE260.out | refine below_set ?_ GE272.out) | exact HB.out))) : w.heap.size ≤ gb273))
                              have n6_ := Aside0.mk ((by rw [hg]; exact (below_size (by repeat (first | (with_reducible first | exact HB.out | apply below_alloc | apply pw_below_drewN | apply below_drew1 | refine below_set ?_ GE259.out | refine below_set ?_ GE260.out | refine below_set ?_ GE272.out) | exact HB.out))) : w.heap.size ≤ gb273))
                              have n7_ := Aside0.mk ((by rw [hg]; exact Nat.ne_of_lt (blk_lt (g := gb259) (o := .cells #[.int .i64 a0_0, .slice A0_1 l0_1.length c0_1] 24 (0, 0)) (by (with_reducible repeat (first | refine blk_drewN ?_ _ | refine blk_drew ?_ | refine blk_alloc ?_ _)); exact BK259.out)) : gb259 ≠ gb273))
                              have n8_ := Aside0.mk ((by rw [hg]; exact Nat.ne_of_gt (blk_lt (g := gb259) (o := .cells #[.int .i64 a0_0, .slice A0_1 l0_1.length c0_1] 24 (0, 0)) (by (with_reducible repeat (first | refine blk_drewN ?_ _ | refine blk_drew ?_ | refine blk_alloc ?_ _)); exact BK259.out)) : gb273 ≠ gb259))
                              have n9_ := Aside0.mk ((by rw [hg]; exact Nat.ne_of_lt (blk_lt (g := gb260) (o := .cells #[.slice A1_0 l1_0.length c1_0, .int .i64 a1_1] 33 (0, 0)) (by (with_reducible repeat (first | refine blk_drewN ?_ _ | refine blk_drew ?_ | refine blk_alloc ?_ _)); exact BK260.out)) : gb260 ≠ gb273))
                              have n10_ := Aside0.mk ((by rw [hg]; exact Nat.ne_of_gt (blk_lt (g := gb260) (o := .cells #[.slice A1_0 l1_0.length c1_0, .int .i64 a1_1] 33 (0, 0)) (by (with_reducible repeat (first | refine blk_drewN ?_ _ | refine blk_drew ?_ | refine blk_alloc ?_ _)); exact BK260.out)) : gb273 ≠ gb260))
                              have n11_ := Aside0.mk ((by rw [hg]; exact Nat.ne_of_lt (blk_lt (g := gb272) (o := .cells #[.int .i64 0, .slice none 0 0] 24 (0, 0)) (by (with_reducible repeat (first | refine blk_drewN ?_ _ | refine blk_drew ?_ | refine blk_alloc ?_ _)); exact BK272.out)) : gb272 ≠ gb273))
                              have n12_ := Aside0.mk ((by rw [hg]; exact Nat.ne_of_gt (blk_lt (g := gb272) (o := .cells #[.int .i64 0, .slice none 0 0] 24 (0, 0)) (by (with_reducible repeat (first | refine blk_drewN ?_ _ | refine blk_drew ?_ | refine blk_alloc ?_ _)); exact BK272.out)) : gb273 ≠ gb272))
                              clear BK259
                              clear BK260
                              clear BK272
                              clear HB
                              have BK259 := n0_
                              have BK260 := n1_
                              have BK272 := n2_
                              have HB := n3_
                              have BK273 := n4_
                              have GW273 := n5_
                              have GE273 := n6_
                              have NB259_273 := n7_
                              have NB273_259 := n8_
                              have NB260_273 := n9_
                              have NB273_260 := n10_
                              have NB272_273 := n11_
                              have NB273_272 := n12_
                              clear n0_ n1_ n2_ n3_ n4_ n5_ n6_ n7_ n8_ n9_ n10_ n11_ n12_
                              clear hb hbox hg
                              refine hK.out _ _ ⟨(blk_cell BK259.out 0).trans rfl, (blk_cell BK259.out 1).trans rfl, (blk_cell BK260.out 0).trans rfl, (blk_cell BK260.out 1).trans rfl⟩ (fun hHeld => ?_)
                              clear hK K
                              refine norm_ (a' := ?_) ?_ ?_
                              rotate_left
                              · show Act.put _ (some 6) _ = _
                                simp only [Act.put, List.setIfInBounds_toArray, List.set_cons_zero, List.set_cons_succ, i64_w, i32_w]
                                rfl
                              exact norm_ (by first | (simp only [putAll, Act.put, List.setIfInBounds_toArray, List.set_cons_zero, List.set_cons_succ]; done) | (simp only [putAll, Act.put, List.setIfInBounds_toArray, List.set_cons_zero, List.set_cons_succ]; rfl)) (hJ4_5 (gb272, gb273) _ ⟨hHeld, (by (with_reducible repeat (first | refine blk_drewN ?_ _ | refine blk_drew ?_ | refine blk_alloc ?_ _)); exact BK259.out), (by (with_reducible repeat (first | refine blk_drewN ?_ _ | refine blk_drew ?_ | refine blk_alloc ?_ _)); exact BK260.out), (by (with_reducible repeat (first | refine blk_drewN ?_ _ | refine blk_drew ?_ | refine blk_alloc ?_ _)); exact BK272.out), (by (with_reducible repeat (first | refine blk_drewN ?_ _ | refine blk_drew ?_ | refine blk_alloc ?_ _)); exact BK273.out), GW272.out, GE272.out, NB259_272.out, NB272_259.out, NB260_272.out, NB272_260.out, NB273_272.out, NB272_273.out, GW273.out, GE273.out, NB259_273.out, NB273_259.out, NB260_273.out, NB273_260.out, (by repeat (first | (with_reducible first | exact HB.out | apply below_alloc | apply pw_below_drewN | apply below_drew1 | refine below_set ?_ GE259.out | refine below_set ?_ GE260.out | refine below_set ?_ GE272.out | refine below_set ?_ GE273.out) | exact HB.out))⟩)
                        · skip
                          rintro v266 w27 ⟨hS_, h0_, h1_, h2_, h3_⟩
                          have n0_ : Aside0 (Kd.S k33 33 w27 w.heap.size (fun k_ => k_ ≠ gb260) v266 t265) := ⟨h0_⟩
                          have n1_ : Aside0 (w27.heap[gb259]? = some (.cells #[.int .i64 a0_0, .slice A0_1 l0_1.length c0_1] 24 (0, 0))) := ⟨h1_⟩
                          have n2_ : Aside0 (w27.heap[gb260]? = some (.cells #[.slice A1_0 l1_0.length c1_0, .int .i64 a1_1] 33 (0, 0))) := ⟨h2_⟩
                          have n3_ : Aside0 (Below w.heap.size w w27) := ⟨h3_⟩
                          clear BK259
                          clear BK260
                          clear HB
                          clear h0_ h1_ h2_ h3_
                          have HO267 := n0_
                          have BK259 := n1_
                          have BK260 := n2_
                          have HB := n3_
                          clear n0_ n1_ n2_ n3_
                          have hHeld : w27.cell? ⟨gb259, 0, none⟩ = some (.int .i64 a0_0) ∧ w27.cell? ⟨gb259, 1, none⟩ = some (.slice A0_1 l0_1.length c0_1) ∧ w27.cell? ⟨gb260, 0, none⟩ = some (.slice A1_0 l1_0.length c1_0) ∧ w27.cell? ⟨gb260, 1, none⟩ = some (.int .i64 a1_1) := hS_
                          refine norm_ (a' := ?_) ?_ ?_
                          rotate_left
                          · simp only [putAll, Act.put, List.setIfInBounds_toArray, List.set_cons_zero, List.set_cons_succ]
                            rfl
                          refine three_ (i := 3) (j := 4) (k := 5) (Ni := some 23) (Nj := some 5) (Nk := some 6) #[true, true, true, true, false, false, false, false] #[true, true, true, false, true, false, false, false] #[true, true, true, false, false, true, false, false] rfl rfl rfl rfl rfl rfl (three_of HT_.out (by kernel_rfl)) (by decide) (by decide) (by decide) (fun K hK => ?_) (fun K hK => ?_) (fun K hK => ?_)
                          · skip
                            refine goes_ Tryd.func26 (by kernel_rfl) rfl #[.agg #[.slice A1_0 l1_0.length c1_0, .int .i64 a1_1]] (by rfl) rfl rfl (by (try simp only [List.map_toArray, List.map_cons, List.map_nil]); first | done | rfl | (simp only [List.length_drop, List.length_take]; rfl)) ?_
                            with_reducible refine (familycheckref01_CopyRow.calls _ _ l1_0 a1_1 t268 t271 _ ?side1 ?side2 A21.out).mono ?_
                            (case side1 => repeat (first | exact (Kd.C_below HR1_0.out HB.out) | (with_reducible refine Kd.C_alloc ?_ _) | (with_reducible refine Kd.C_drewN ?_ _) | (with_reducible refine Kd.C_drew ?_)))
                            (case side2 => exact HC1_0.out)
                            rintro e w28 ⟨v269, rfl, ho0, hb⟩
                            refine ⟨_, rfl, ?_⟩
                            have n0_ := Aside0.mk (Kd.S_elder' (by (with_reducible repeat (first | apply Kd.S_alloc | apply Kd.S_drewN | apply Kd.S_drew)); exact HO267.out) (Kd.R_base ho0) hb)
                            have n1_ := Aside0.mk (Kd.R_lower ho0 (below_size (by repeat (first | (with_reducible first | exact HB.out | apply below_alloc | apply pw_below_drewN | apply below_drew1 | refine below_set ?_ GE259.out | refine below_set ?_ GE260.out) | exact HB.out))))
                            have n2_ := Aside0.mk (blk_below (g := gb259) (o := .cells #[.int .i64 a0_0, .slice A0_1 l0_1.length c0_1] 24 (0, 0)) (by (with_reducible repeat (first | refine blk_drewN ?_ _ | refine blk_drew ?_ | refine blk_alloc ?_ _)); exact BK259.out) hb)
                            have n3_ := Aside0.mk (blk_below (g := gb260) (o := .cells #[.slice A1_0 l1_0.length c1_0, .int .i64 a1_1] 33 (0, 0)) (by (with_reducible repeat (first | refine blk_drewN ?_ _ | refine blk_drew ?_ | refine blk_alloc ?_ _)); exact BK260.out) hb)
                            have n4_ := Aside0.mk (below_step (by repeat (first | (with_reducible first | exact HB.out | apply below_alloc | apply pw_below_drewN | apply below_drew1 | refine below_set ?_ GE259.out | refine below_set ?_ GE260.out) | exact HB.out)) hb)
                            clear HO267
                            clear BK259
                            clear BK260
                            clear HB
                            have HO267 := n0_
                            have HO270 := n1_
                            have BK259 := n2_
                            have BK260 := n3_
                            have HB := n4_
                            clear n0_ n1_ n2_ n3_ n4_
                            (try clear hb)
                            (try clear hb2)
                            (try clear hk)
                            (try clear hi)
                            (try clear ho0)
                            refine hK.out _ _ ⟨(blk_cell BK259.out 0).trans rfl, (blk_cell BK259.out 1).trans rfl, (blk_cell BK260.out 0).trans rfl, (blk_cell BK260.out 1).trans rfl⟩ (fun hHeld => ?_)
                            clear hK K
                            refine norm_ (a' := ?_) ?_ ?_
                            rotate_left
                            · show Act.put _ (some 23) _ = _
                              simp only [Act.put, List.setIfInBounds_toArray, List.set_cons_zero, List.set_cons_succ, i64_w, i32_w]
                              rfl
                            exact norm_ (by first | (simp only [putAll, Act.put, List.setIfInBounds_toArray, List.set_cons_zero, List.set_cons_succ]; done) | (simp only [putAll, Act.put, List.setIfInBounds_toArray, List.set_cons_zero, List.set_cons_succ]; rfl)) (hJ1_3 (v266, v269) _ ⟨hHeld, (by (with_reducible repeat (first | apply Kd.S_alloc | apply Kd.S_drewN | apply Kd.S_drew)); exact Kd.S_mono HO267.out (fun _ hk => ⟨hk.2, hk.1⟩)), (by (with_reducible repeat (first | apply Kd.R_alloc | apply Kd.R_drewN | apply Kd.R_drew)); exact HO270.out), (by (with_reducible repeat (first | refine blk_drewN ?_ _ | refine blk_drew ?_ | refine blk_alloc ?_ _)); exact BK259.out), (by (with_reducible repeat (first | refine blk_drewN ?_ _ | refine blk_drew ?_ | refine blk_alloc ?_ _)); exact BK260.out), (by repeat (first | (with_reducible first | exact HB.out | apply below_alloc | apply pw_below_drewN | apply below_drew1 | refine below_set ?_ GE259.out | refine below_set ?_ GE260.out) | exact HB.out))⟩)
                          · skip
                            refine box_step ?hg (N := 5) ?hd (cs := #[.int .i64 0, .slice none 0 0]) (t := 24) ?hr ?_; (case hd => rfl); (case hg => rfl); (case hr => first | (go_simp; done) | (go_simp; rfl))
                            intro gb272 hg w28 hbox hb
                            have n0_ := Aside0.mk (Kd.S_below (by (with_reducible repeat (first | apply Kd.S_alloc | apply Kd.S_drewN | apply Kd.S_drew)); exact HO267.out) hb)
                            have n1_ := Aside0.mk (blk_below (g := gb259) (o := .cells #[.int .i64 a0_0, .slice A0_1 l0_1.length c0_1] 24 (0, 0)) (by (with_reducible repeat (first | refine blk_drewN ?_ _ | refine blk_drew ?_ | refine blk_alloc ?_ _)); exact BK259.out) hb)
                            have n2_ := Aside0.mk (blk_below (g := gb260) (o := .cells #[.slice A1_0 l1_0.length c1_0, .int .i64 a1_1] 33 (0, 0)) (by (with_reducible repeat (first | refine blk_drewN ?_ _ | refine blk_drew ?_ | refine blk_alloc ?_ _)); exact BK260.out) hb)
                            have n3_ := Aside0.mk (below_step (by repeat (first | (with_reducible first | exact HB.out | apply below_alloc | apply pw_below_drewN | apply below_drew1 | refine below_set ?_ GE259.out | refine below_set ?_ GE260.out) | exact HB.out)) hb)
                            have n4_ := Aside0.mk (hbox)
                            have n5_ := Aside0.mk ((by rw [hg]; exact (below_size (by repeat (first | (with_reducible first | exact HB.out | apply below_alloc | apply pw_below_drewN | apply below_drew1 | refine below_set ?_ GE259.out | refine below_set ?_ GE260.out) | exact HB.out))) : w.heap.size ≤ gb272))
                            have n6_ := Aside0.mk ((by rw [hg]; exact (below_size (by repeat (first | (with_reducible first | exact HB.out | apply below_alloc | apply pw_below_drewN | apply below_drew1 | refine below_set ?_ GE259.out | refine below_set ?_ GE260.out) | exact HB.out))) : w.heap.size ≤ gb272))
                            have n7_ := Aside0.mk ((by rw [hg]; exact Nat.ne_of_lt (blk_lt (g := gb259) (o := .cells #[.int .i64 a0_0, .slice A0_1 l0_1.length c0_1] 24 (0, 0)) (by (with_reducible repeat (first | refine blk_drewN ?_ _ | refine blk_drew ?_ | refine blk_alloc ?_ _)); exact BK259.out)) : gb259 ≠ gb272))
                            have n8_ := Aside0.mk ((by rw [hg]; exact Nat.ne_of_gt (blk_lt (g := gb259) (o := .cells #[.int .i64 a0_0, .slice A0_1 l0_1.length c0_1] 24 (0, 0)) (by (with_reducible repeat (first | refine blk_drewN ?_ _ | refine blk_drew ?_ | refine blk_alloc ?_ _)); exact BK259.out)) : gb272 ≠ gb259))
                            have n9_ := Aside0.mk ((by rw [hg]; exact Nat.ne_of_lt (blk_lt (g := gb260) (o := .cells #[.slice A1_0 l1_0.length c1_0, .int .i64 a1_1] 33 (0, 0)) (by (with_reducible repeat (first | refine blk_drewN ?_ _ | refine blk_drew ?_ | refine blk_alloc ?_ _)); exact BK260.out)) : gb260 ≠ gb272))
                            have n10_ := Aside0.mk ((by rw [hg]; exact Nat.ne_of_gt (blk_lt (g := gb260) (o := .cells #[.slice A1_0 l1_0.length c1_0, .int .i64 a1_1] 33 (0, 0)) (by (with_reducible repeat (first | refine blk_drewN ?_ _ | refine blk_drew ?_ | refine blk_alloc ?_ _)); exact BK260.out)) : gb272 ≠ gb260))
                            clear HO267
                            clear BK259
                            clear BK260
                            clear HB
                            have HO267 := n0_
                            have BK259 := n1_
                            have BK260 := n2_
                            have HB := n3_
                            have BK272 := n4_
                            have GW272 := n5_
                            have GE272 := n6_
                            have NB259_272 := n7_
                            have NB272_259 := n8_
                            have NB260_272 := n9_
                            have NB272_260 := n10_
                            clear n0_ n1_ n2_ n3_ n4_ n5_ n6_ n7_ n8_ n9_ n10_
                            clear hb hbox hg
                            refine hK.out _ _ ⟨(blk_cell BK259.out 0).trans rfl, (blk_cell BK259.out 1).trans rfl, (blk_cell BK260.out 0).trans rfl, (blk_cell BK260.out 1).trans rfl⟩ (fun hHeld => ?_)
                            clear hK K
                            refine norm_ (a' := ?_) ?_ ?_
                            rotate_left
                            · show Act.put _ (some 5) _ = _
                              simp only [Act.put, List.setIfInBounds_toArray, List.set_cons_zero, List.set_cons_succ, i64_w, i32_w]
                              rfl
                            exact norm_ (by first | (simp only [putAll, Act.put, List.setIfInBounds_toArray, List.set_cons_zero, List.set_cons_succ]; done) | (simp only [putAll, Act.put, List.setIfInBounds_toArray, List.set_cons_zero, List.set_cons_succ]; rfl)) (hJ1_4 (v266, gb272) _ ⟨hHeld, (by (with_reducible repeat (first | apply Kd.S_alloc | apply Kd.S_drewN | apply Kd.S_drew)); exact HO267.out), (by (with_reducible repeat (first | refine blk_drewN ?_ _ | refine blk_drew ?_ | refine blk_alloc ?_ _)); exact BK259.out), (by (with_reducible repeat (first | refine blk_drewN ?_ _ | refine blk_drew ?_ | refine blk_alloc ?_ _)); exact BK260.out), (by (with_reducible repeat (first | refine blk_drewN ?_ _ | refine blk_drew ?_ | refine blk_alloc ?_ _)); exact BK272.out), GW272.out, GE272.out, NB259_272.out, NB272_259.out, NB260_272.out, NB272_260.out, (by repeat (first | (with_reducible first | exact HB.out | apply below_alloc | apply pw_below_drewN | apply below_drew1 | refine below_set ?_ GE259.out | refine below_set ?_ GE260.out | refine below_set ?_ GE272.out) | exact HB.out))⟩)
                          · skip
                            refine box_step ?hg (N := 6) ?hd (cs := #[.slice none 0 0, .int .i64 0]) (t := 33) ?hr ?_; (case hd => rfl); (case hg => rfl); (case hr => first | (go_simp; done) | (go_simp; rfl))
                            intro gb273 hg w28 hbox hb
                            have n0_ := Aside0.mk (Kd.S_below (Kd.S_elderB (by (with_reducible repeat (first | apply Kd.S_alloc | apply Kd.S_drewN | apply Kd.S_drew)); exact HO267.out) gb273 (Nat.le_of_eq hg.symm)) hb)
                            have n1_ := Aside0.mk (blk_below (g := gb259) (o := .cells #[.int .i64 a0_0, .slice A0_1 l0_1.length c0_1] 24 (0, 0)) (by (with_reducible repeat (first | refine blk_drewN ?_ _ | refine blk_drew ?_ | refine blk_alloc ?_ _)); exact BK259.out) hb)
                            have n2_ := Aside0.mk (blk_below (g := gb260) (o := .cells #[.slice A1_0 l1_0.length c1_0, .int .i64 a1_1] 33 (0, 0)) (by (with_reducible repeat (first | refine blk_drewN ?_ _ | refine blk_drew ?_ | refine blk_alloc ?_ _)); exact BK260.out) hb)
                            have n3_ := Aside0.mk (below_step (by repeat (first | (with_reducible first | exact HB.out | apply below_alloc | apply pw_below_drewN | apply below_drew1 | refine below_set ?_ GE259.out | refine below_set ?_ GE260.out) | exact HB.out)) hb)
                            have n4_ := Aside0.mk (hbox)
                            have n5_ := Aside0.mk ((by rw [hg]; exact (below_size (by repeat (first | (with_reducible first | exact HB.out | apply below_alloc | apply pw_below_drewN | apply below_drew1 | refine below_set ?_ GE259.out | refine below_set ?_ GE260.out) | exact HB.out))) : w.heap.size ≤ gb273))
                            have n6_ := Aside0.mk ((by rw [hg]; exact (below_size (by repeat (first | (with_reducible first | exact HB.out | apply below_alloc | apply pw_below_drewN | apply below_drew1 | refine below_set ?_ GE259.out | refine below_set ?_ GE260.out) | exact HB.out))) : w.heap.size ≤ gb273))
                            have n7_ := Aside0.mk ((by rw [hg]; exact Nat.ne_of_lt (blk_lt (g := gb259) (o := .cells #[.int .i64 a0_0, .slice A0_1 l0_1.length c0_1] 24 (0, 0)) (by (with_reducible repeat (first | refine blk_drewN ?_ _ | refine blk_drew ?_ | refine blk_alloc ?_ _)); exact BK259.out)) : gb259 ≠ gb273))
                            have n8_ := Aside0.mk ((by rw [hg]; exact Nat.ne_of_gt (blk_lt (g := gb259) (o := .cells #[.int .i64 a0_0, .slice A0_1 l0_1.length c0_1] 24 (0, 0)) (by (with_reducible repeat (first | refine blk_drewN ?_ _ | refine blk_drew ?_ | refine blk_alloc ?_ _)); exact BK259.out)) : gb273 ≠ gb259))
                            have n9_ := Aside0.mk ((by rw [hg]; exact Nat.ne_of_lt (blk_lt (g := gb260) (o := .cells #[.slice A1_0 l1_0.length c1_0, .int .i64 a1_1] 33 (0, 0)) (by (with_reducible repeat (first | refine blk_drewN ?_ _ | refine blk_drew ?_ | refine blk_alloc ?_ _)); exact BK260.out)) : gb260 ≠ gb273))
                            have n10_ := Aside0.mk ((by rw [hg]; exact Nat.ne_of_gt (blk_lt (g := gb260) (o := .cells #[.slice A1_0 l1_0.length c1_0, .int .i64 a1_1] 33 (0, 0)) (by (with_reducible repeat (first | refine blk_drewN ?_ _ | refine blk_drew ?_ | refine blk_alloc ?_ _)); exact BK260.out)) : gb273 ≠ gb260))
                            clear HO267
                            clear BK259
                            clear BK260
                            clear HB
                            have HO267 := n0_
                            have BK259 := n1_
                            have BK260 := n2_
                            have HB := n3_
                            have BK273 := n4_
                            have GW273 := n5_
                            have GE273 := n6_
                            have NB259_273 := n7_
                            have NB273_259 := n8_
                            have NB260_273 := n9_
                            have NB273_260 := n10_
                            clear n0_ n1_ n2_ n3_ n4_ n5_ n6_ n7_ n8_ n9_ n10_
                            clear hb hbox hg
                            refine hK.out _ _ ⟨(blk_cell BK259.out 0).trans rfl, (blk_cell BK259.out 1).trans rfl, (blk_cell BK260.out 0).trans rfl, (blk_cell BK260.out 1).trans rfl⟩ (fun hHeld => ?_)
                            clear hK K
                            refine norm_ (a' := ?_) ?_ ?_
                            rotate_left
                            · show Act.put _ (some 6) _ = _
                              simp only [Act.put, List.setIfInBounds_toArray, List.set_cons_zero, List.set_cons_succ, i64_w, i32_w]
                              rfl
                            exact norm_ (by first | (simp only [putAll, Act.put, List.setIfInBounds_toArray, List.set_cons_zero, List.set_cons_succ]; done) | (simp only [putAll, Act.put, List.setIfInBounds_toArray, List.set_cons_zero, List.set_cons_succ]; rfl)) (hJ1_5 (v266, gb273) _ ⟨hHeld, (by (with_reducible repeat (first | apply Kd.S_alloc | apply Kd.S_drewN | apply Kd.S_drew)); exact HO267.out), (by (with_reducible repeat (first | refine blk_drewN ?_ _ | refine blk_drew ?_ | refine blk_alloc ?_ _)); exact BK259.out), (by (with_reducible repeat (first | refine blk_drewN ?_ _ | refine blk_drew ?_ | refine blk_alloc ?_ _)); exact BK260.out), (by (with_reducible repeat (first | refine blk_drewN ?_ _ | refine blk_drew ?_ | refine blk_alloc ?_ _)); exact BK273.out), GW273.out, GE273.out, NB259_273.out, NB273_259.out, NB260_273.out, NB273_260.out, (by repeat (first | (with_reducible first | exact HB.out | apply below_alloc | apply pw_below_drewN | apply below_drew1 | refine below_set ?_ GE259.out | refine below_set ?_ GE260.out | refine below_set ?_ GE273.out) | exact HB.out))⟩)
                      · skip
                        rintro ⟨gb272, gb273⟩ w28 ⟨hS_, h0_, h1_, h2_, h3_, h4_, h5_, h6_, h7_, h8_, h9_, h10_, h11_, h12_, h13_, h14_, h15_, h16_, h17_, h18_⟩
                        have n0_ : Aside0 (w28.heap[gb259]? = some (.cells #[.int .i64 a0_0, .slice A0_1 l0_1.length c0_1] 24 (0, 0))) := ⟨h0_⟩
                        have n1_ : Aside0 (w28.heap[gb260]? = some (.cells #[.slice A1_0 l1_0.length c1_0, .int .i64 a1_1] 33 (0, 0))) := ⟨h1_⟩
                        have n2_ : Aside0 (w28.heap[gb272]? = some (.cells #[.int .i64 0, .slice none 0 0] 24 (0, 0))) := ⟨h2_⟩
                        have n3_ : Aside0 (w28.heap[gb273]? = some (.cells #[.slice none 0 0, .int .i64 0] 33 (0, 0))) := ⟨h3_⟩
                        have n4_ : Aside0 (w.heap.size ≤ gb272) := ⟨h4_⟩
                        have n5_ : Aside0 (w.heap.size ≤ gb272) := ⟨h5_⟩
                        have n6_ : Aside0 (gb259 ≠ gb272) := ⟨h6_⟩
                        have n7_ : Aside0 (gb272 ≠ gb259) := ⟨h7_⟩
                        have n8_ : Aside0 (gb260 ≠ gb272) := ⟨h8_⟩
                        have n9_ : Aside0 (gb272 ≠ gb260) := ⟨h9_⟩
                        have n10_ : Aside0 (gb273 ≠ gb272) := ⟨h10_⟩
                        have n11_ : Aside0 (gb272 ≠ gb273) := ⟨h11_⟩
                        have n12_ : Aside0 (w.heap.size ≤ gb273) := ⟨h12_⟩
                        have n13_ : Aside0 (w.heap.size ≤ gb273) := ⟨h13_⟩
                        have n14_ : Aside0 (gb259 ≠ gb273) := ⟨h14_⟩
                        have n15_ : Aside0 (gb273 ≠ gb259) := ⟨h15_⟩
                        have n16_ : Aside0 (gb260 ≠ gb273) := ⟨h16_⟩
                        have n17_ : Aside0 (gb273 ≠ gb260) := ⟨h17_⟩
                        have n18_ : Aside0 (Below w.heap.size w w28) := ⟨h18_⟩
                        clear BK259
                        clear BK260
                        clear HB
                        clear h0_ h1_ h2_ h3_ h4_ h5_ h6_ h7_ h8_ h9_ h10_ h11_ h12_ h13_ h14_ h15_ h16_ h17_ h18_
                        have BK259 := n0_
                        have BK260 := n1_
                        have BK272 := n2_
                        have BK273 := n3_
                        have GW272 := n4_
                        have GE272 := n5_
                        have NB259_272 := n6_
                        have NB272_259 := n7_
                        have NB260_272 := n8_
                        have NB272_260 := n9_
                        have NB273_272 := n10_
                        have NB272_273 := n11_
                        have GW273 := n12_
                        have GE273 := n13_
                        have NB259_273 := n14_
                        have NB273_259 := n15_
                        have NB260_273 := n16_
                        have NB273_260 := n17_
                        have HB := n18_
                        clear n0_ n1_ n2_ n3_ n4_ n5_ n6_ n7_ n8_ n9_ n10_ n11_ n12_ n13_ n14_ n15_ n16_ n17_ n18_
                        have hHeld : w28.cell? ⟨gb259, 0, none⟩ = some (.int .i64 a0_0) ∧ w28.cell? ⟨gb259, 1, none⟩ = some (.slice A0_1 l0_1.length c0_1) ∧ w28.cell? ⟨gb260, 0, none⟩ = some (.slice A1_0 l1_0.length c1_0) ∧ w28.cell? ⟨gb260, 1, none⟩ = some (.int .i64 a1_1) := hS_
                        refine norm_ (a' := ?_) ?_ ?_
                        rotate_left
                        · simp only [putAll, Act.put, List.setIfInBounds_toArray, List.set_cons_zero, List.set_cons_succ]
                          rfl
                        refine one_ (i := 1) (N := some 21) #[true, true, true, false, true, true, false, false] rfl rfl (one_of HT_.out (by kernel_rfl)) (by decide) (fun K hK => ?_)
                        refine goes_ Tryd.func17 (by kernel_rfl) rfl #[.agg #[.int .i64 a0_0, .slice A0_1 l0_1.length c0_1]] (by rfl) rfl rfl (by (try simp only [List.map_toArray, List.map_cons, List.map_nil]); first | done | rfl | (simp only [List.length_drop, List.length_take]; rfl)) ?_
                        with_reducible refine (familycheckref01_CopySystem.calls kj2 a0_0 _ _ l0_1 t264 t265 _ ?side1 ?side2 A20.out).mono ?_
                        (case side1 => repeat (first | exact (Kd.C_below HR0_1.out HB.out) | (with_reducible refine Kd.C_alloc ?_ _) | (with_reducible refine Kd.C_drewN ?_ _) | (with_reducible refine Kd.C_drew ?_)))
                        (case side2 => exact HC0_1.out)
                        rintro e w29 ⟨v266, rfl, ho0, hb⟩
                        refine ⟨_, rfl, ?_⟩
                        have n0_ := Aside0.mk (Kd.S_lower (Kd.S_newB (Kd.S_newB ho0 (g := gb260) (o := .cells #[.slice A1_0 l1_0.length c1_0, .int .i64 a1_1] 33 (0, 0)) (by (with_reducible repeat (first | refine blk_drewN ?_ _ | refine blk_drew ?_ | refine blk_alloc ?_ _)); exact BK260.out)) (g := gb273) (o := .cells #[.slice none 0 0, .int .i64 0] 33 (0, 0)) (by (with_reducible repeat (first | refine blk_drewN ?_ _ | refine blk_drew ?_ | refine blk_alloc ?_ _)); exact BK273.out)) (below_size (by repeat (first | (with_reducible first | exact HB.out | apply below_alloc | apply pw_below_drewN | apply below_drew1 | refine below_set ?_ GE259.out | refine below_set ?_ GE260.out | refine below_set ?_ GE272.out | refine below_set ?_ GE273.out) | exact HB.out))))
                        have n1_ := Aside0.mk (blk_below (g := gb259) (o := .cells #[.int .i64 a0_0, .slice A0_1 l0_1.length c0_1] 24 (0, 0)) (by (with_reducible repeat (first | refine blk_drewN ?_ _ | refine blk_drew ?_ | refine blk_alloc ?_ _)); exact BK259.out) hb)
                        have n2_ := Aside0.mk (blk_below (g := gb260) (o := .cells #[.slice A1_0 l1_0.length c1_0, .int .i64 a1_1] 33 (0, 0)) (by (with_reducible repeat (first | refine blk_drewN ?_ _ | refine blk_drew ?_ | refine blk_alloc ?_ _)); exact BK260.out) hb)
                        have n3_ := Aside0.mk (blk_below (g := gb272) (o := .cells #[.int .i64 0, .slice none 0 0] 24 (0, 0)) (by (with_reducible repeat (first | refine blk_drewN ?_ _ | refine blk_drew ?_ | refine blk_alloc ?_ _)); exact BK272.out) hb)
                        have n4_ := Aside0.mk (blk_below (g := gb273) (o := .cells #[.slice none 0 0, .int .i64 0] 33 (0, 0)) (by (with_reducible repeat (first | refine blk_drewN ?_ _ | refine blk_drew ?_ | refine blk_alloc ?_ _)); exact BK273.out) hb)
                        have n5_ := Aside0.mk (below_step (by repeat (first | (with_reducible first | exact HB.out | apply below_alloc | apply pw_below_drewN | apply below_drew1 | refine below_set ?_ GE259.out | refine below_set ?_ GE260.out | refine below_set ?_ GE272.out | refine below_set ?_ GE273.out) | exact HB.out)) hb)
                        clear BK259
                        clear BK260
                        clear BK272
                        clear BK273
                        clear HB
                        have HO267 := n0_
                        have BK259 := n1_
                        have BK260 := n2_
                        have BK272 := n3_
                        have BK273 := n4_
                        have HB := n5_
                        clear n0_ n1_ n2_ n3_ n4_ n5_
                        (try clear hb)
                        (try clear hb2)
                        (try clear hk)
                        (try clear hi)
                        (try clear ho0)
                        refine hK.out _ _ ⟨(blk_cell BK259.out 0).trans rfl, (blk_cell BK259.out 1).trans rfl, (blk_cell BK260.out 0).trans rfl, (blk_cell BK260.out 1).trans rfl⟩ (fun hHeld => ?_)
                        clear hK K
                        refine norm_ (a' := ?_) ?_ ?_
                        rotate_left
                        · show Act.put _ (some 21) _ = _
                          simp only [Act.put, List.setIfInBounds_toArray, List.set_cons_zero, List.set_cons_succ, i64_w, i32_w]
                          rfl
                        exact norm_ (by first | (simp only [putAll, Act.put, List.setIfInBounds_toArray, List.set_cons_zero, List.set_cons_succ]; done) | (simp only [putAll, Act.put, List.setIfInBounds_toArray, List.set_cons_zero, List.set_cons_succ]; rfl)) (hJ1_4_5 (v266, gb272, gb273) _ ⟨hHeld, (by (with_reducible repeat (first | apply Kd.S_alloc | apply Kd.S_drewN | apply Kd.S_drew)); exact Kd.S_mono HO267.out (fun _ hk => ⟨hk.1.2, hk.2⟩)), (by (with_reducible repeat (first | refine blk_drewN ?_ _ | refine blk_drew ?_ | refine blk_alloc ?_ _)); exact BK259.out), (by (with_reducible repeat (first | refine blk_drewN ?_ _ | refine blk_drew ?_ | refine blk_alloc ?_ _)); exact BK260.out), (by (with_reducible repeat (first | refine blk_drewN ?_ _ | refine blk_drew ?_ | refine blk_alloc ?_ _)); exact BK272.out), (by (with_reducible repeat (first | refine blk_drewN ?_ _ | refine blk_drew ?_ | refine blk_alloc ?_ _)); exact BK273.out), GW272.out, GE272.out, NB259_272.out, NB272_259.out, NB260_272.out, NB272_260.out, NB273_272.out, NB272_273.out, GW273.out, GE273.out, NB259_273.out, NB273_259.out, NB260_273.out, NB273_260.out, (by repeat (first | (with_reducible first | exact HB.out | apply below_alloc | apply pw_below_drewN | apply below_drew1 | refine below_set ?_ GE259.out | refine below_set ?_ GE260.out | refine below_set ?_ GE272.out | refine below_set ?_ GE273.out) | exact HB.out))⟩)
                    · skip
                      rintro ⟨v266, gb273⟩ w28 ⟨hS_, h0_, h1_, h2_, h3_, h4_, h5_, h6_, h7_, h8_, h9_, h10_⟩
                      have n0_ : Aside0 (Kd.S k33 33 w28 w.heap.size (fun k_ => k_ ≠ gb260 ∧ k_ ≠ gb273) v266 t265) := ⟨h0_⟩
                      have n1_ : Aside0 (w28.heap[gb259]? = some (.cells #[.int .i64 a0_0, .slice A0_1 l0_1.length c0_1] 24 (0, 0))) := ⟨h1_⟩
                      have n2_ : Aside0 (w28.heap[gb260]? = some (.cells #[.slice A1_0 l1_0.length c1_0, .int .i64 a1_1] 33 (0, 0))) := ⟨h2_⟩
                      have n3_ : Aside0 (w28.heap[gb273]? = some (.cells #[.slice none 0 0, .int .i64 0] 33 (0, 0))) := ⟨h3_⟩
                      have n4_ : Aside0 (w.heap.size ≤ gb273) := ⟨h4_⟩
                      have n5_ : Aside0 (w.heap.size ≤ gb273) := ⟨h5_⟩
                      have n6_ : Aside0 (gb259 ≠ gb273) := ⟨h6_⟩
                      have n7_ : Aside0 (gb273 ≠ gb259) := ⟨h7_⟩
                      have n8_ : Aside0 (gb260 ≠ gb273) := ⟨h8_⟩
                      have n9_ : Aside0 (gb273 ≠ gb260) := ⟨h9_⟩
                      have n10_ : Aside0 (Below w.heap.size w w28) := ⟨h10_⟩
                      clear BK259
                      clear BK260
                      clear HB
                      clear h0_ h1_ h2_ h3_ h4_ h5_ h6_ h7_ h8_ h9_ h10_
                      have HO267 := n0_
                      have BK259 := n1_
                      have BK260 := n2_
                      have BK273 := n3_
                      have GW273 := n4_
                      have GE273 := n5_
                      have NB259_273 := n6_
                      have NB273_259 := n7_
                      have NB260_273 := n8_
                      have NB273_260 := n9_
                      have HB := n10_
                      clear n0_ n1_ n2_ n3_ n4_ n5_ n6_ n7_ n8_ n9_ n10_
                      have hHeld : w28.cell? ⟨gb259, 0, none⟩ = some (.int .i64 a0_0) ∧ w28.cell? ⟨gb259, 1, none⟩ = some (.slice A0_1 l0_1.length c0_1) ∧ w28.cell? ⟨gb260, 0, none⟩ = some (.slice A1_0 l1_0.length c1_0) ∧ w28.cell? ⟨gb260, 1, none⟩ = some (.int .i64 a1_1) := hS_
                      refine norm_ (a' := ?_) ?_ ?_
                      rotate_left
                      · simp only [putAll, Act.put, List.setIfInBounds_toArray, List.set_cons_zero, List.set_cons_succ]
                        rfl
                      refine two_ (i := 3) (j := 4) (Ni := some 23) (Nj := some 5) #[true, true, true, true, false, true, false, false] #[true, true, true, false, true, true, false, false] rfl rfl rfl rfl (two_of HT_.out (by kernel_rfl)) (by decide) (by decide) (fun K hK => ?_) (fun K hK => ?_)
                      · skip
                        refine goes_ Tryd.func26 (by kernel_rfl) rfl #[.agg #[.slice A1_0 l1_0.length c1_0, .int .i64 a1_1]] (by rfl) rfl rfl (by (try simp only [List.map_toArray, List.map_cons, List.map_nil]); first | done | rfl | (simp only [List.length_drop, List.length_take]; rfl)) ?_
                        with_reducible refine (familycheckref01_CopyRow.calls _ _ l1_0 a1_1 t268 t271 _ ?side1 ?side2 A21.out).mono ?_
                        (case side1 => repeat (first | exact (Kd.C_below HR1_0.out HB.out) | (with_reducible refine Kd.C_alloc ?_ _) | (with_reducible refine Kd.C_drewN ?_ _) | (with_reducible refine Kd.C_drew ?_)))
                        (case side2 => exact HC1_0.out)
                        rintro e w29 ⟨v269, rfl, ho0, hb⟩
                        refine ⟨_, rfl, ?_⟩
                        have n0_ := Aside0.mk (Kd.S_elder' (by (with_reducible repeat (first | apply Kd.S_alloc | apply Kd.S_drewN | apply Kd.S_drew)); exact HO267.out) (Kd.R_base ho0) hb)
                        have n1_ := Aside0.mk (Kd.R_lower ho0 (below_size (by repeat (first | (with_reducible first | exact HB.out | apply below_alloc | apply pw_below_drewN | apply below_drew1 | refine below_set ?_ GE259.out | refine below_set ?_ GE260.out | refine below_set ?_ GE273.out) | exact HB.out))))
                        have n2_ := Aside0.mk (blk_below (g := gb259) (o := .cells #[.int .i64 a0_0, .slice A0_1 l0_1.length c0_1] 24 (0, 0)) (by (with_reducible repeat (first | refine blk_drewN ?_ _ | refine blk_drew ?_ | refine blk_alloc ?_ _)); exact BK259.out) hb)
                        have n3_ := Aside0.mk (blk_below (g := gb260) (o := .cells #[.slice A1_0 l1_0.length c1_0, .int .i64 a1_1] 33 (0, 0)) (by (with_reducible repeat (first | refine blk_drewN ?_ _ | refine blk_drew ?_ | refine blk_alloc ?_ _)); exact BK260.out) hb)
                        have n4_ := Aside0.mk (blk_below (g := gb273) (o := .cells #[.slice none 0 0, .int .i64 0] 33 (0, 0)) (by (with_reducible repeat (first | refine blk_drewN ?_ _ | refine blk_drew ?_ | refine blk_alloc ?_ _)); exact BK273.out) hb)
                        have n5_ := Aside0.mk (below_step (by repeat (first | (with_reducible first | exact HB.out | apply below_alloc | apply pw_below_drewN | apply below_drew1 | refine below_set ?_ GE259.out | refine below_set ?_ GE260.out | refine below_set ?_ GE273.out) | exact HB.out)) hb)
                        clear HO267
                        clear BK259
                        clear BK260
                        clear BK273
                        clear HB
                        have HO267 := n0_
                        have HO270 := n1_
                        have BK259 := n2_
                        have BK260 := n3_
                        have BK273 := n4_
                        have HB := n5_
                        clear n0_ n1_ n2_ n3_ n4_ n5_
                        (try clear hb)
                        (try clear hb2)
                        (try clear hk)
                        (try clear hi)
                        (try clear ho0)
                        refine hK.out _ _ ⟨(blk_cell BK259.out 0).trans rfl, (blk_cell BK259.out 1).trans rfl, (blk_cell BK260.out 0).trans rfl, (blk_cell BK260.out 1).trans rfl⟩ (fun hHeld => ?_)
                        clear hK K
                        refine norm_ (a' := ?_) ?_ ?_
                        rotate_left
                        · show Act.put _ (some 23) _ = _
                          simp only [Act.put, List.setIfInBounds_toArray, List.set_cons_zero, List.set_cons_succ, i64_w, i32_w]
                          rfl
                        exact norm_ (by first | (simp only [putAll, Act.put, List.setIfInBounds_toArray, List.set_cons_zero, List.set_cons_succ]; done) | (simp only [putAll, Act.put, List.setIfInBounds_toArray, List.set_cons_zero, List.set_cons_succ]; rfl)) (hJ1_3_5 (v266, v269, gb273) _ ⟨hHeld, (by (with_reducible repeat (first | apply Kd.S_alloc | apply Kd.S_drewN | apply Kd.S_drew)); exact Kd.S_mono HO267.out (fun _ hk => ⟨hk.2, ⟨hk.1.1, hk.1.2⟩⟩)), (by (with_reducible repeat (first | apply Kd.R_alloc | apply Kd.R_drewN | apply Kd.R_drew)); exact HO270.out), (by (with_reducible repeat (first | refine blk_drewN ?_ _ | refine blk_drew ?_ | refine blk_alloc ?_ _)); exact BK259.out), (by (with_reducible repeat (first | refine blk_drewN ?_ _ | refine blk_drew ?_ | refine blk_alloc ?_ _)); exact BK260.out), (by (with_reducible repeat (first | refine blk_drewN ?_ _ | refine blk_drew ?_ | refine blk_alloc ?_ _)); exact BK273.out), GW273.out, GE273.out, NB259_273.out, NB273_259.out, NB260_273.out, NB273_260.out, (by repeat (first | (with_reducible first | exact HB.out | apply below_alloc | apply pw_below_drewN | apply below_drew1 | refine below_set ?_ GE259.out | refine below_set ?_ GE260.out | refine below_set ?_ GE273.out) | exact HB.out))⟩)
                      · skip
                        refine box_step ?hg (N := 5) ?hd (cs := #[.int .i64 0, .slice none 0 0]) (t := 24) ?hr ?_; (case hd => rfl); (case hg => rfl); (case hr => first | (go_simp; done) | (go_simp; rfl))
                        intro gb272 hg w29 hbox hb
                        have n0_ := Aside0.mk (Kd.S_below (by (with_reducible repeat (first | apply Kd.S_alloc | apply Kd.S_drewN | apply Kd.S_drew)); exact HO267.out) hb)
                        have n1_ := Aside0.mk (blk_below (g := gb259) (o := .cells #[.int .i64 a0_0, .slice A0_1 l0_1.length c0_1] 24 (0, 0)) (by (with_reducible repeat (first | refine blk_drewN ?_ _ | refine blk_drew ?_ | refine blk_alloc ?_ _)); exact BK259.out) hb)
                        have n2_ := Aside0.mk (blk_below (g := gb260) (o := .cells #[.slice A1_0 l1_0.length c1_0, .int .i64 a1_1] 33 (0, 0)) (by (with_reducible repeat (first | refine blk_drewN ?_ _ | refine blk_drew ?_ | refine blk_alloc ?_ _)); exact BK260.out) hb)
                        have n3_ := Aside0.mk (blk_below (g := gb273) (o := .cells #[.slice none 0 0, .int .i64 0] 33 (0, 0)) (by (with_reducible repeat (first | refine blk_drewN ?_ _ | refine blk_drew ?_ | refine blk_alloc ?_ _)); exact BK273.out) hb)
                        have n4_ := Aside0.mk (below_step (by repeat (first | (with_reducible first | exact HB.out | apply below_alloc | apply pw_below_drewN | apply below_drew1 | refine below_set ?_ GE259.out | refine below_set ?_ GE260.out | refine below_set ?_ GE273.out) | exact HB.out)) hb)
                        have n5_ := Aside0.mk (hbox)
                        have n6_ := Aside0.mk ((by rw [hg]; exact (below_size (by repeat (first | (with_reducible first | exact HB.out | apply below_alloc | apply pw_below_drewN | apply below_drew1 | refine below_set ?_ GE259.out | refine below_set ?_ GE260.out | refine below_set ?_ GE273.out) | exact HB.out))) : w.heap.size ≤ gb272))
                        have n7_ := Aside0.mk ((by rw [hg]; exact (below_size (by repeat (first | (with_reducible first | exact HB.out | apply below_alloc | apply pw_below_drewN | apply below_drew1 | refine below_set ?_ GE259.out | refine below_set ?_ GE260.out | refine below_set ?_ GE273.out) | exact HB.out))) : w.heap.size ≤ gb272))
                        have n8_ := Aside0.mk ((by rw [hg]; exact Nat.ne_of_lt (blk_lt (g := gb259) (o := .cells #[.int .i64 a0_0, .slice A0_1 l0_1.length c0_1] 24 (0, 0)) (by (with_reducible repeat (first | refine blk_drewN ?_ _ | refine blk_drew ?_ | refine blk_alloc ?_ _)); exact BK259.out)) : gb259 ≠ gb272))
                        have n9_ := Aside0.mk ((by rw [hg]; exact Nat.ne_of_gt (blk_lt (g := gb259) (o := .cells #[.int .i64 a0_0, .slice A0_1 l0_1.length c0_1] 24 (0, 0)) (by (with_reducible repeat (first | refine blk_drewN ?_ _ | refine blk_drew ?_ | refine blk_alloc ?_ _)); exact BK259.out)) : gb272 ≠ gb259))
                        have n10_ := Aside0.mk ((by rw [hg]; exact Nat.ne_of_lt (blk_lt (g := gb260) (o := .cells #[.slice A1_0 l1_0.length c1_0, .int .i64 a1_1] 33 (0, 0)) (by (with_reducible repeat (first | refine blk_drewN ?_ _ | refine blk_drew ?_ | refine blk_alloc ?_ _)); exact BK260.out)) : gb260 ≠ gb272))
                        have n11_ := Aside0.mk ((by rw [hg]; exact Nat.ne_of_gt (blk_lt (g := gb260) (o := .cells #[.slice A1_0 l1_0.length c1_0, .int .i64 a1_1] 33 (0, 0)) (by (with_reducible repeat (first | refine blk_drewN ?_ _ | refine blk_drew ?_ | refine blk_alloc ?_ _)); exact BK260.out)) : gb272 ≠ gb260))
                        have n12_ := Aside0.mk ((by rw [hg]; exact Nat.ne_of_lt (blk_lt (g := gb273) (o := .cells #[.slice none 0 0, .int .i64 0] 33 (0, 0)) (by (with_reducible repeat (first | refine blk_drewN ?_ _ | refine blk_drew ?_ | refine blk_alloc ?_ _)); exact BK273.out)) : gb273 ≠ gb272))
                        have n13_ := Aside0.mk ((by rw [hg]; exact Nat.ne_of_gt (blk_lt (g := gb273) (o := .cells #[.slice none 0 0, .int .i64 0] 33 (0, 0)) (by (with_reducible repeat (first | refine blk_drewN ?_ _ | refine blk_drew ?_ | refine blk_alloc ?_ _)); exact BK273.out)) : gb272 ≠ gb273))
                        clear HO267
                        clear BK259
                        clear BK260
                        clear BK273
                        clear HB
                        have HO267 := n0_
                        have BK259 := n1_
                        have BK260 := n2_
                        have BK273 := n3_
                        have HB := n4_
                        have BK272 := n5_
                        have GW272 := n6_
                        have GE272 := n7_
                        have NB259_272 := n8_
                        have NB272_259 := n9_
                        have NB260_272 := n10_
                        have NB272_260 := n11_
                        have NB273_272 := n12_
                        have NB272_273 := n13_
                        clear n0_ n1_ n2_ n3_ n4_ n5_ n6_ n7_ n8_ n9_ n10_ n11_ n12_ n13_
                        clear hb hbox hg
                        refine hK.out _ _ ⟨(blk_cell BK259.out 0).trans rfl, (blk_cell BK259.out 1).trans rfl, (blk_cell BK260.out 0).trans rfl, (blk_cell BK260.out 1).trans rfl⟩ (fun hHeld => ?_)
                        clear hK K
                        refine norm_ (a' := ?_) ?_ ?_
                        rotate_left
                        · show Act.put _ (some 5) _ = _
                          simp only [Act.put, List.setIfInBounds_toArray, List.set_cons_zero, List.set_cons_succ, i64_w, i32_w]
                          rfl
                        exact norm_ (by first | (simp only [putAll, Act.put, List.setIfInBounds_toArray, List.set_cons_zero, List.set_cons_succ]; done) | (simp only [putAll, Act.put, List.setIfInBounds_toArray, List.set_cons_zero, List.set_cons_succ]; rfl)) (hJ1_4_5 (v266, gb272, gb273) _ ⟨hHeld, (by (with_reducible repeat (first | apply Kd.S_alloc | apply Kd.S_drewN | apply Kd.S_drew)); exact HO267.out), (by (with_reducible repeat (first | refine blk_drewN ?_ _ | refine blk_drew ?_ | refine blk_alloc ?_ _)); exact BK259.out), (by (with_reducible repeat (first | refine blk_drewN ?_ _ | refine blk_drew ?_ | refine blk_alloc ?_ _)); exact BK260.out), (by (with_reducible repeat (first | refine blk_drewN ?_ _ | refine blk_drew ?_ | refine blk_alloc ?_ _)); exact BK272.out), (by (with_reducible repeat (first | refine blk_drewN ?_ _ | refine blk_drew ?_ | refine blk_alloc ?_ _)); exact BK273.out), GW272.out, GE272.out, NB259_272.out, NB272_259.out, NB260_272.out, NB272_260.out, NB273_272.out, NB272_273.out, GW273.out, GE273.out, NB259_273.out, NB273_259.out, NB260_273.out, NB273_260.out, (by repeat (first | (with_reducible first | exact HB.out | apply below_alloc | apply pw_below_drewN | apply below_drew1 | refine below_set ?_ GE259.out | refine below_set ?_ GE260.out | refine below_set ?_ GE273.out | refine below_set ?_ GE272.out) | exact HB.out))⟩)
                  · skip
                    rintro ⟨v266, gb272⟩ w28 ⟨hS_, h0_, h1_, h2_, h3_, h4_, h5_, h6_, h7_, h8_, h9_, h10_⟩
                    have n0_ : Aside0 (Kd.S k33 33 w28 w.heap.size (fun k_ => k_ ≠ gb260) v266 t265) := ⟨h0_⟩
                    have n1_ : Aside0 (w28.heap[gb259]? = some (.cells #[.int .i64 a0_0, .slice A0_1 l0_1.length c0_1] 24 (0, 0))) := ⟨h1_⟩
                    have n2_ : Aside0 (w28.heap[gb260]? = some (.cells #[.slice A1_0 l1_0.length c1_0, .int .i64 a1_1] 33 (0, 0))) := ⟨h2_⟩
                    have n3_ : Aside0 (w28.heap[gb272]? = some (.cells #[.int .i64 0, .slice none 0 0] 24 (0, 0))) := ⟨h3_⟩
                    have n4_ : Aside0 (w.heap.size ≤ gb272) := ⟨h4_⟩
                    have n5_ : Aside0 (w.heap.size ≤ gb272) := ⟨h5_⟩
                    have n6_ : Aside0 (gb259 ≠ gb272) := ⟨h6_⟩
                    have n7_ : Aside0 (gb272 ≠ gb259) := ⟨h7_⟩
                    have n8_ : Aside0 (gb260 ≠ gb272) := ⟨h8_⟩
                    have n9_ : Aside0 (gb272 ≠ gb260) := ⟨h9_⟩
                    have n10_ : Aside0 (Below w.heap.size w w28) := ⟨h10_⟩
                    clear BK259
                    clear BK260
                    clear HB
                    clear h0_ h1_ h2_ h3_ h4_ h5_ h6_ h7_ h8_ h9_ h10_
                    have HO267 := n0_
                    have BK259 := n1_
                    have BK260 := n2_
                    have BK272 := n3_
                    have GW272 := n4_
                    have GE272 := n5_
                    have NB259_272 := n6_
                    have NB272_259 := n7_
                    have NB260_272 := n8_
                    have NB272_260 := n9_
                    have HB := n10_
                    clear n0_ n1_ n2_ n3_ n4_ n5_ n6_ n7_ n8_ n9_ n10_
                    have hHeld : w28.cell? ⟨gb259, 0, none⟩ = some (.int .i64 a0_0) ∧ w28.cell? ⟨gb259, 1, none⟩ = some (.slice A0_1 l0_1.length c0_1) ∧ w28.cell? ⟨gb260, 0, none⟩ = some (.slice A1_0 l1_0.length c1_0) ∧ w28.cell? ⟨gb260, 1, none⟩ = some (.int .i64 a1_1) := hS_
                    refine norm_ (a' := ?_) ?_ ?_
                    rotate_left
                    · simp only [putAll, Act.put, List.setIfInBounds_toArray, List.set_cons_zero, List.set_cons_succ]
                      rfl
                    refine two_ (i := 3) (j := 5) (Ni := some 23) (Nj := some 6) #[true, true, true, true, true, false, false, false] #[true, true, true, false, true, true, false, false] rfl rfl rfl rfl (two_of HT_.out (by kernel_rfl)) (by decide) (by decide) (fun K hK => ?_) (fun K hK => ?_)
                    · skip
                      refine goes_ Tryd.func26 (by kernel_rfl) rfl #[.agg #[.slice A1_0 l1_0.length c1_0, .int .i64 a1_1]] (by rfl) rfl rfl (by (try simp only [List.map_toArray, List.map_cons, List.map_nil]); first | done | rfl | (simp only [List.length_drop, List.length_take]; rfl)) ?_
                      with_reducible refine (familycheckref01_CopyRow.calls _ _ l1_0 a1_1 t268 t271 _ ?side1 ?side2 A21.out).mono ?_
                      (case side1 => repeat (first | exact (Kd.C_below HR1_0.out HB.out) | (with_reducible refine Kd.C_alloc ?_ _) | (with_reducible refine Kd.C_drewN ?_ _) | (with_reducible refine Kd.C_drew ?_)))
                      (case side2 => exact HC1_0.out)
                      rintro e w29 ⟨v269, rfl, ho0, hb⟩
                      refine ⟨_, rfl, ?_⟩
                      have n0_ := Aside0.mk (Kd.S_elder' (by (with_reducible repeat (first | apply Kd.S_alloc | apply Kd.S_drewN | apply Kd.S_drew)); exact HO267.out) (Kd.R_base ho0) hb)
                      have n1_ := Aside0.mk (Kd.R_lower ho0 (below_size (by repeat (first | (with_reducible first | exact HB.out | apply below_alloc | apply pw_below_drewN | apply below_drew1 | refine below_set ?_ GE259.out | refine below_set ?_ GE260.out | refine below_set ?_ GE272.out) | exact HB.out))))
                      have n2_ := Aside0.mk (blk_below (g := gb259) (o := .cells #[.int .i64 a0_0, .slice A0_1 l0_1.length c0_1] 24 (0, 0)) (by (with_reducible repeat (first | refine blk_drewN ?_ _ | refine blk_drew ?_ | refine blk_alloc ?_ _)); exact BK259.out) hb)
                      have n3_ := Aside0.mk (blk_below (g := gb260) (o := .cells #[.slice A1_0 l1_0.length c1_0, .int .i64 a1_1] 33 (0, 0)) (by (with_reducible repeat (first | refine blk_drewN ?_ _ | refine blk_drew ?_ | refine blk_alloc ?_ _)); exact BK260.out) hb)
                      have n4_ := Aside0.mk (blk_below (g := gb272) (o := .cells #[.int .i64 0, .slice none 0 0] 24 (0, 0)) (by (with_reducible repeat (first | refine blk_drewN ?_ _ | refine blk_drew ?_ | refine blk_alloc ?_ _)); exact BK272.out) hb)
                      have n5_ := Aside0.mk (below_step (by repeat (first | (with_reducible first | exact HB.out | apply below_alloc | apply pw_below_drewN | apply below_drew1 | refine below_set ?_ GE259.out | refine below_set ?_ GE260.out | refine below_set ?_ GE272.out) | exact HB.out)) hb)
                      clear HO267
                      clear BK259
                      clear BK260
                      clear BK272
                      clear HB
                      have HO267 := n0_
                      have HO270 := n1_
                      have BK259 := n2_
                      have BK260 := n3_
                      have BK272 := n4_
                      have HB := n5_
                      clear n0_ n1_ n2_ n3_ n4_ n5_
                      (try clear hb)
                      (try clear hb2)
                      (try clear hk)
                      (try clear hi)
                      (try clear ho0)
                      refine hK.out _ _ ⟨(blk_cell BK259.out 0).trans rfl, (blk_cell BK259.out 1).trans rfl, (blk_cell BK260.out 0).trans rfl, (blk_cell BK260.out 1).trans rfl⟩ (fun hHeld => ?_)
                      clear hK K
                      refine norm_ (a' := ?_) ?_ ?_
                      rotate_left
                      · show Act.put _ (some 23) _ = _
                        simp only [Act.put, List.setIfInBounds_toArray, List.set_cons_zero, List.set_cons_succ, i64_w, i32_w]
                        rfl
                      exact norm_ (by first | (simp only [putAll, Act.put, List.setIfInBounds_toArray, List.set_cons_zero, List.set_cons_succ]; done) | (simp only [putAll, Act.put, List.setIfInBounds_toArray, List.set_cons_zero, List.set_cons_succ]; rfl)) (hJ1_3_4 (v266, v269, gb272) _ ⟨hHeld, (by (with_reducible repeat (first | apply Kd.S_alloc | apply Kd.S_drewN | apply Kd.S_drew)); exact Kd.S_mono HO267.out (fun _ hk => ⟨hk.2, hk.1⟩)), (by (with_reducible repeat (first | apply Kd.R_alloc | apply Kd.R_drewN | apply Kd.R_drew)); exact HO270.out), (by (with_reducible repeat (first | refine blk_drewN ?_ _ | refine blk_drew ?_ | refine blk_alloc ?_ _)); exact BK259.out), (by (with_reducible repeat (first | refine blk_drewN ?_ _ | refine blk_drew ?_ | refine blk_alloc ?_ _)); exact BK260.out), (by (with_reducible repeat (first | refine blk_drewN ?_ _ | refine blk_drew ?_ | refine blk_alloc ?_ _)); exact BK272.out), GW272.out, GE272.out, NB259_272.out, NB272_259.out, NB260_272.out, NB272_260.out, (by repeat (first | (with_reducible first | exact HB.out | apply below_alloc | apply pw_below_drewN | apply below_drew1 | refine below_set ?_ GE259.out | refine below_set ?_ GE260.out | refine below_set ?_ GE272.out) | exact HB.out))⟩)
                    · skip
                      refine box_step ?hg (N := 6) ?hd (cs := #[.slice none 0 0, .int .i64 0]) (t := 33) ?hr ?_; (case hd => rfl); (case hg => rfl); (case hr => first | (go_simp; done) | (go_simp; rfl))
                      intro gb273 hg w29 hbox hb
                      have n0_ := Aside0.mk (Kd.S_below (Kd.S_elderB (by (with_reducible repeat (first | apply Kd.S_alloc | apply Kd.S_drewN | apply Kd.S_drew)); exact HO267.out) gb273 (Nat.le_of_eq hg.symm)) hb)
                      have n1_ := Aside0.mk (blk_below (g := gb259) (o := .cells #[.int .i64 a0_0, .slice A0_1 l0_1.length c0_1] 24 (0, 0)) (by (with_reducible repeat (first | refine blk_drewN ?_ _ | refine blk_drew ?_ | refine blk_alloc ?_ _)); exact BK259.out) hb)
                      have n2_ := Aside0.mk (blk_below (g := gb260) (o := .cells #[.slice A1_0 l1_0.length c1_0, .int .i64 a1_1] 33 (0, 0)) (by (with_reducible repeat (first | refine blk_drewN ?_ _ | refine blk_drew ?_ | refine blk_alloc ?_ _)); exact BK260.out) hb)
                      have n3_ := Aside0.mk (blk_below (g := gb272) (o := .cells #[.int .i64 0, .slice none 0 0] 24 (0, 0)) (by (with_reducible repeat (first | refine blk_drewN ?_ _ | refine blk_drew ?_ | refine blk_alloc ?_ _)); exact BK272.out) hb)
                      have n4_ := Aside0.mk (below_step (by repeat (first | (with_reducible first | exact HB.out | apply below_alloc | apply pw_below_drewN | apply below_drew1 | refine below_set ?_ GE259.out | refine below_set ?_ GE260.out | refine below_set ?_ GE272.out) | exact HB.out)) hb)
                      have n5_ := Aside0.mk (hbox)
                      have n6_ := Aside0.mk ((by rw [hg]; exact (below_size (by repeat (first | (with_reducible first | exact HB.out | apply below_alloc | apply pw_below_drewN | apply below_drew1 | refine below_set ?_ GE259.out | refine below_set ?_ GE260.out | refine below_set ?_ GE272.out) | exact HB.out))) : w.heap.size ≤ gb273))
                      have n7_ := Aside0.mk ((by rw [hg]; exact (below_size (by repeat (first | (with_reducible first | exact HB.out | apply below_alloc | apply pw_below_drewN | apply below_drew1 | refine below_set ?_ GE259.out | refine below_set ?_ GE260.out | refine below_set ?_ GE272.out) | exact HB.out))) : w.heap.size ≤ gb273))
                      have n8_ := Aside0.mk ((by rw [hg]; exact Nat.ne_of_lt (blk_lt (g := gb259) (o := .cells #[.int .i64 a0_0, .slice A0_1 l0_1.length c0_1] 24 (0, 0)) (by (with_reducible repeat (first | refine blk_drewN ?_ _ | refine blk_drew ?_ | refine blk_alloc ?_ _)); exact BK259.out)) : gb259 ≠ gb273))
                      have n9_ := Aside0.mk ((by rw [hg]; exact Nat.ne_of_gt (blk_lt (g := gb259) (o := .cells #[.int .i64 a0_0, .slice A0_1 l0_1.length c0_1] 24 (0, 0)) (by (with_reducible repeat (first | refine blk_drewN ?_ _ | refine blk_drew ?_ | refine blk_alloc ?_ _)); exact BK259.out)) : gb273 ≠ gb259))
                      have n10_ := Aside0.mk ((by rw [hg]; exact Nat.ne_of_lt (blk_lt (g := gb260) (o := .cells #[.slice A1_0 l1_0.length c1_0, .int .i64 a1_1] 33 (0, 0)) (by (with_reducible repeat (first | refine blk_drewN ?_ _ | refine blk_drew ?_ | refine blk_alloc ?_ _)); exact BK260.out)) : gb260 ≠ gb273))
                      have n11_ := Aside0.mk ((by rw [hg]; exact Nat.ne_of_gt (blk_lt (g := gb260) (o := .cells #[.slice A1_0 l1_0.length c1_0, .int .i64 a1_1] 33 (0, 0)) (by (with_reducible repeat (first | refine blk_drewN ?_ _ | refine blk_drew ?_ | refine blk_alloc ?_ _)); exact BK260.out)) : gb273 ≠ gb260))
                      have n12_ := Aside0.mk ((by rw [hg]; exact Nat.ne_of_lt (blk_lt (g := gb272) (o := .cells #[.int .i64 0, .slice none 0 0] 24 (0, 0)) (by (with_reducible repeat (first | refine blk_drewN ?_ _ | refine blk_drew ?_ | refine blk_alloc ?_ _)); exact BK272.out)) : gb272 ≠ gb273))
                      have n13_ := Aside0.mk ((by rw [hg]; exact Nat.ne_of_gt (blk_lt (g := gb272) (o := .cells #[.int .i64 0, .slice none 0 0] 24 (0, 0)) (by (with_reducible repeat (first | refine blk_drewN ?_ _ | refine blk_drew ?_ | refine blk_alloc ?_ _)); exact BK272.out)) : gb273 ≠ gb272))
                      clear HO267
                      clear BK259
                      clear BK260
                      clear BK272
                      clear HB
                      have HO267 := n0_
                      have BK259 := n1_
                      have BK260 := n2_
                      have BK272 := n3_
                      have HB := n4_
                      have BK273 := n5_
                      have GW273 := n6_
                      have GE273 := n7_
                      have NB259_273 := n8_
                      have NB273_259 := n9_
                      have NB260_273 := n10_
                      have NB273_260 := n11_
                      have NB272_273 := n12_
                      have NB273_272 := n13_
                      clear n0_ n1_ n2_ n3_ n4_ n5_ n6_ n7_ n8_ n9_ n10_ n11_ n12_ n13_
                      clear hb hbox hg
                      refine hK.out _ _ ⟨(blk_cell BK259.out 0).trans rfl, (blk_cell BK259.out 1).trans rfl, (blk_cell BK260.out 0).trans rfl, (blk_cell BK260.out 1).trans rfl⟩ (fun hHeld => ?_)
                      clear hK K
                      refine norm_ (a' := ?_) ?_ ?_
                      rotate_left
                      · show Act.put _ (some 6) _ = _
                        simp only [Act.put, List.setIfInBounds_toArray, List.set_cons_zero, List.set_cons_succ, i64_w, i32_w]
                        rfl
                      exact norm_ (by first | (simp only [putAll, Act.put, List.setIfInBounds_toArray, List.set_cons_zero, List.set_cons_succ]; done) | (simp only [putAll, Act.put, List.setIfInBounds_toArray, List.set_cons_zero, List.set_cons_succ]; rfl)) (hJ1_4_5 (v266, gb272, gb273) _ ⟨hHeld, (by (with_reducible repeat (first | apply Kd.S_alloc | apply Kd.S_drewN | apply Kd.S_drew)); exact HO267.out), (by (with_reducible repeat (first | refine blk_drewN ?_ _ | refine blk_drew ?_ | refine blk_alloc ?_ _)); exact BK259.out), (by (with_reducible repeat (first | refine blk_drewN ?_ _ | refine blk_drew ?_ | refine blk_alloc ?_ _)); exact BK260.out), (by (with_reducible repeat (first | refine blk_drewN ?_ _ | refine blk_drew ?_ | refine blk_alloc ?_ _)); exact BK272.out), (by (with_reducible repeat (first | refine blk_drewN ?_ _ | refine blk_drew ?_ | refine blk_alloc ?_ _)); exact BK273.out), GW272.out, GE272.out, NB259_272.out, NB272_259.out, NB260_272.out, NB272_260.out, NB273_272.out, NB272_273.out, GW273.out, GE273.out, NB259_273.out, NB273_259.out, NB260_273.out, NB273_260.out, (by repeat (first | (with_reducible first | exact HB.out | apply below_alloc | apply pw_below_drewN | apply below_drew1 | refine below_set ?_ GE259.out | refine below_set ?_ GE260.out | refine below_set ?_ GE272.out | refine below_set ?_ GE273.out) | exact HB.out))⟩)
                · skip
                  rintro ⟨v266, v269⟩ w28 ⟨hS_, h0_, h1_, h2_, h3_, h4_⟩
                  have n0_ : Aside0 (Kd.S k33 33 w28 w.heap.size (fun k_ => some k_ ≠ (v269 : Value).ownBlock ∧ k_ ≠ gb260) v266 t265) := ⟨h0_⟩
                  have n1_ : Aside0 (Kd.R (Kd.int .i64) 3 w28 w.heap.size (fun _ => True) v269 t268) := ⟨h1_⟩
                  have n2_ : Aside0 (w28.heap[gb259]? = some (.cells #[.int .i64 a0_0, .slice A0_1 l0_1.length c0_1] 24 (0, 0))) := ⟨h2_⟩
                  have n3_ : Aside0 (w28.heap[gb260]? = some (.cells #[.slice A1_0 l1_0.length c1_0, .int .i64 a1_1] 33 (0, 0))) := ⟨h3_⟩
                  have n4_ : Aside0 (Below w.heap.size w w28) := ⟨h4_⟩
                  clear BK259
                  clear BK260
                  clear HB
                  clear h0_ h1_ h2_ h3_ h4_
                  have HO267 := n0_
                  have HO270 := n1_
                  have BK259 := n2_
                  have BK260 := n3_
                  have HB := n4_
                  clear n0_ n1_ n2_ n3_ n4_
                  have hHeld : w28.cell? ⟨gb259, 0, none⟩ = some (.int .i64 a0_0) ∧ w28.cell? ⟨gb259, 1, none⟩ = some (.slice A0_1 l0_1.length c0_1) ∧ w28.cell? ⟨gb260, 0, none⟩ = some (.slice A1_0 l1_0.length c1_0) ∧ w28.cell? ⟨gb260, 1, none⟩ = some (.int .i64 a1_1) := hS_
                  refine norm_ (a' := ?_) ?_ ?_
                  rotate_left
                  · simp only [putAll, Act.put, List.setIfInBounds_toArray, List.set_cons_zero, List.set_cons_succ]
                    rfl
                  refine two_ (i := 4) (j := 5) (Ni := some 5) (Nj := some 6) #[true, true, true, true, true, false, false, false] #[true, true, true, true, false, true, false, false] rfl rfl rfl rfl (two_of HT_.out (by kernel_rfl)) (by decide) (by decide) (fun K hK => ?_) (fun K hK => ?_)
                  · skip
                    refine box_step ?hg (N := 5) ?hd (cs := #[.int .i64 0, .slice none 0 0]) (t := 24) ?hr ?_; (case hd => rfl); (case hg => rfl); (case hr => first | (go_simp; done) | (go_simp; rfl))
                    intro gb272 hg w29 hbox hb
                    have n0_ := Aside0.mk (Kd.S_below (by (with_reducible repeat (first | apply Kd.S_alloc | apply Kd.S_drewN | apply Kd.S_drew)); exact HO267.out) hb)
                    have n1_ := Aside0.mk (Kd.R_below (by (with_reducible repeat (first | apply Kd.R_alloc | apply Kd.R_drewN | apply Kd.R_drew)); exact HO270.out) hb)
                    have n2_ := Aside0.mk (blk_below (g := gb259) (o := .cells #[.int .i64 a0_0, .slice A0_1 l0_1.length c0_1] 24 (0, 0)) (by (with_reducible repeat (first | refine blk_drewN ?_ _ | refine blk_drew ?_ | refine blk_alloc ?_ _)); exact BK259.out) hb)
                    have n3_ := Aside0.mk (blk_below (g := gb260) (o := .cells #[.slice A1_0 l1_0.length c1_0, .int .i64 a1_1] 33 (0, 0)) (by (with_reducible repeat (first | refine blk_drewN ?_ _ | refine blk_drew ?_ | refine blk_alloc ?_ _)); exact BK260.out) hb)
                    have n4_ := Aside0.mk (below_step (by repeat (first | (with_reducible first | exact HB.out | apply below_alloc | apply pw_below_drewN | apply below_drew1 | refine below_set ?_ GE259.out | refine below_set ?_ GE260.out) | exact HB.out)) hb)
                    have n5_ := Aside0.mk (hbox)
                    have n6_ := Aside0.mk ((by rw [hg]; exact (below_size (by repeat (first | (with_reducible first | exact HB.out | apply below_alloc | apply pw_below_drewN | apply below_drew1 | refine below_set ?_ GE259.out | refine below_set ?_ GE260.out) | exact HB.out))) : w.heap.size ≤ gb272))
                    have n7_ := Aside0.mk ((by rw [hg]; exact (below_size (by repeat (first | (with_reducible first | exact HB.out | apply below_alloc | apply pw_below_drewN | apply below_drew1 | refine below_set ?_ GE259.out | refine below_set ?_ GE260.out) | exact HB.out))) : w.heap.size ≤ gb272))
                    have n8_ := Aside0.mk ((by rw [hg]; exact Nat.ne_of_lt (blk_lt (g := gb259) (o := .cells #[.int .i64 a0_0, .slice A0_1 l0_1.length c0_1] 24 (0, 0)) (by (with_reducible repeat (first | refine blk_drewN ?_ _ | refine blk_drew ?_ | refine blk_alloc ?_ _)); exact BK259.out)) : gb259 ≠ gb272))
                    have n9_ := Aside0.mk ((by rw [hg]; exact Nat.ne_of_gt (blk_lt (g := gb259) (o := .cells #[.int .i64 a0_0, .slice A0_1 l0_1.length c0_1] 24 (0, 0)) (by (with_reducible repeat (first | refine blk_drewN ?_ _ | refine blk_drew ?_ | refine blk_alloc ?_ _)); exact BK259.out)) : gb272 ≠ gb259))
                    have n10_ := Aside0.mk ((by rw [hg]; exact Nat.ne_of_lt (blk_lt (g := gb260) (o := .cells #[.slice A1_0 l1_0.length c1_0, .int .i64 a1_1] 33 (0, 0)) (by (with_reducible repeat (first | refine blk_drewN ?_ _ | refine blk_drew ?_ | refine blk_alloc ?_ _)); exact BK260.out)) : gb260 ≠ gb272))
                    have n11_ := Aside0.mk ((by rw [hg]; exact Nat.ne_of_gt (blk_lt (g := gb260) (o := .cells #[.slice A1_0 l1_0.length c1_0, .int .i64 a1_1] 33 (0, 0)) (by (with_reducible repeat (first | refine blk_drewN ?_ _ | refine blk_drew ?_ | refine blk_alloc ?_ _)); exact BK260.out)) : gb272 ≠ gb260))
                    clear HO267
                    clear HO270
                    clear BK259
                    clear BK260
                    clear HB
                    have HO267 := n0_
                    have HO270 := n1_
                    have BK259 := n2_
                    have BK260 := n3_
                    have HB := n4_
                    have BK272 := n5_
                    have GW272 := n6_
                    have GE272 := n7_
                    have NB259_272 := n8_
                    have NB272_259 := n9_
                    have NB260_272 := n10_
                    have NB272_260 := n11_
                    clear n0_ n1_ n2_ n3_ n4_ n5_ n6_ n7_ n8_ n9_ n10_ n11_
                    clear hb hbox hg
                    refine hK.out _ _ ⟨(blk_cell BK259.out 0).trans rfl, (blk_cell BK259.out 1).trans rfl, (blk_cell BK260.out 0).trans rfl, (blk_cell BK260.out 1).trans rfl⟩ (fun hHeld => ?_)
                    clear hK K
                    refine norm_ (a' := ?_) ?_ ?_
                    rotate_left
                    · show Act.put _ (some 5) _ = _
                      simp only [Act.put, List.setIfInBounds_toArray, List.set_cons_zero, List.set_cons_succ, i64_w, i32_w]
                      rfl
                    exact norm_ (by first | (simp only [putAll, Act.put, List.setIfInBounds_toArray, List.set_cons_zero, List.set_cons_succ]; done) | (simp only [putAll, Act.put, List.setIfInBounds_toArray, List.set_cons_zero, List.set_cons_succ]; rfl)) (hJ1_3_4 (v266, v269, gb272) _ ⟨hHeld, (by (with_reducible repeat (first | apply Kd.S_alloc | apply Kd.S_drewN | apply Kd.S_drew)); exact HO267.out), (by (with_reducible repeat (first | apply Kd.R_alloc | apply Kd.R_drewN | apply Kd.R_drew)); exact HO270.out), (by (with_reducible repeat (first | refine blk_drewN ?_ _ | refine blk_drew ?_ | refine blk_alloc ?_ _)); exact BK259.out), (by (with_reducible repeat (first | refine blk_drewN ?_ _ | refine blk_drew ?_ | refine blk_alloc ?_ _)); exact BK260.out), (by (with_reducible repeat (first | refine blk_drewN ?_ _ | refine blk_drew ?_ | refine blk_alloc ?_ _)); exact BK272.out), GW272.out, GE272.out, NB259_272.out, NB272_259.out, NB260_272.out, NB272_260.out, (by repeat (first | (with_reducible first | exact HB.out | apply below_alloc | apply pw_below_drewN | apply below_drew1 | refine below_set ?_ GE259.out | refine below_set ?_ GE260.out | refine below_set ?_ GE272.out) | exact HB.out))⟩)
                  · skip
                    refine box_step ?hg (N := 6) ?hd (cs := #[.slice none 0 0, .int .i64 0]) (t := 33) ?hr ?_; (case hd => rfl); (case hg => rfl); (case hr => first | (go_simp; done) | (go_simp; rfl))
                    intro gb273 hg w29 hbox hb
                    have n0_ := Aside0.mk (Kd.S_below (Kd.S_elderB (by (with_reducible repeat (first | apply Kd.S_alloc | apply Kd.S_drewN | apply Kd.S_drew)); exact HO267.out) gb273 (Nat.le_of_eq hg.symm)) hb)
                    have n1_ := Aside0.mk (Kd.R_below (by (with_reducible repeat (first | apply Kd.R_alloc | apply Kd.R_drewN | apply Kd.R_drew)); exact HO270.out) hb)
                    have n2_ := Aside0.mk (blk_below (g := gb259) (o := .cells #[.int .i64 a0_0, .slice A0_1 l0_1.length c0_1] 24 (0, 0)) (by (with_reducible repeat (first | refine blk_drewN ?_ _ | refine blk_drew ?_ | refine blk_alloc ?_ _)); exact BK259.out) hb)
                    have n3_ := Aside0.mk (blk_below (g := gb260) (o := .cells #[.slice A1_0 l1_0.length c1_0, .int .i64 a1_1] 33 (0, 0)) (by (with_reducible repeat (first | refine blk_drewN ?_ _ | refine blk_drew ?_ | refine blk_alloc ?_ _)); exact BK260.out) hb)
                    have n4_ := Aside0.mk (below_step (by repeat (first | (with_reducible first | exact HB.out | apply below_alloc | apply pw_below_drewN | apply below_drew1 | refine below_set ?_ GE259.out | refine below_set ?_ GE260.out) | exact HB.out)) hb)
                    have n5_ := Aside0.mk (hbox)
                    have n6_ := Aside0.mk ((by rw [hg]; exact (below_size (by repeat (first | (with_reducible first | exact HB.out | apply below_alloc | apply pw_below_drewN | apply below_drew1 | refine below_set ?_ GE259.out | refine below_set ?_ GE260.out) | exact HB.out))) : w.heap.size ≤ gb273))
                    have n7_ := Aside0.mk ((by rw [hg]; exact (below_size (by repeat (first | (with_reducible first | exact HB.out | apply below_alloc | apply pw_below_drewN | apply below_drew1 | refine below_set ?_ GE259.out | refine below_set ?_ GE260.out) | exact HB.out))) : w.heap.size ≤ gb273))
                    have n8_ := Aside0.mk ((by rw [hg]; exact Nat.ne_of_lt (blk_lt (g := gb259) (o := .cells #[.int .i64 a0_0, .slice A0_1 l0_1.length c0_1] 24 (0, 0)) (by (with_reducible repeat (first | refine blk_drewN ?_ _ | refine blk_drew ?_ | refine blk_alloc ?_ _)); exact BK259.out)) : gb259 ≠ gb273))
                    have n9_ := Aside0.mk ((by rw [hg]; exact Nat.ne_of_gt (blk_lt (g := gb259) (o := .cells #[.int .i64 a0_0, .slice A0_1 l0_1.length c0_1] 24 (0, 0)) (by (with_reducible repeat (first | refine blk_drewN ?_ _ | refine blk_drew ?_ | refine blk_alloc ?_ _)); exact BK259.out)) : gb273 ≠ gb259))
                    have n10_ := Aside0.mk ((by rw [hg]; exact Nat.ne_of_lt (blk_lt (g := gb260) (o := .cells #[.slice A1_0 l1_0.length c1_0, .int .i64 a1_1] 33 (0, 0)) (by (with_reducible repeat (first | refine blk_drewN ?_ _ | refine blk_drew ?_ | refine blk_alloc ?_ _)); exact BK260.out)) : gb260 ≠ gb273))
                    have n11_ := Aside0.mk ((by rw [hg]; exact Nat.ne_of_gt (blk_lt (g := gb260) (o := .cells #[.slice A1_0 l1_0.length c1_0, .int .i64 a1_1] 33 (0, 0)) (by (with_reducible repeat (first | refine blk_drewN ?_ _ | refine blk_drew ?_ | refine blk_alloc ?_ _)); exact BK260.out)) : gb273 ≠ gb260))
                    clear HO267
                    clear HO270
                    clear BK259
                    clear BK260
                    clear HB
                    have HO267 := n0_
                    have HO270 := n1_
                    have BK259 := n2_
                    have BK260 := n3_
                    have HB := n4_
                    have BK273 := n5_
                    have GW273 := n6_
                    have GE273 := n7_
                    have NB259_273 := n8_
                    have NB273_259 := n9_
                    have NB260_273 := n10_
                    have NB273_260 := n11_
                    clear n0_ n1_ n2_ n3_ n4_ n5_ n6_ n7_ n8_ n9_ n10_ n11_
                    clear hb hbox hg
                    refine hK.out _ _ ⟨(blk_cell BK259.out 0).trans rfl, (blk_cell BK259.out 1).trans rfl, (blk_cell BK260.out 0).trans rfl, (blk_cell BK260.out 1).trans rfl⟩ (fun hHeld => ?_)
                    clear hK K
                    refine norm_ (a' := ?_) ?_ ?_
                    rotate_left
                    · show Act.put _ (some 6) _ = _
                      simp only [Act.put, List.setIfInBounds_toArray, List.set_cons_zero, List.set_cons_succ, i64_w, i32_w]
                      rfl
                    exact norm_ (by first | (simp only [putAll, Act.put, List.setIfInBounds_toArray, List.set_cons_zero, List.set_cons_succ]; done) | (simp only [putAll, Act.put, List.setIfInBounds_toArray, List.set_cons_zero, List.set_cons_succ]; rfl)) (hJ1_3_5 (v266, v269, gb273) _ ⟨hHeld, (by (with_reducible repeat (first | apply Kd.S_alloc | apply Kd.S_drewN | apply Kd.S_drew)); exact Kd.S_mono HO267.out (fun _ hk => ⟨hk.1.1, ⟨hk.1.2, hk.2⟩⟩)), (by (with_reducible repeat (first | apply Kd.R_alloc | apply Kd.R_drewN | apply Kd.R_drew)); exact HO270.out), (by (with_reducible repeat (first | refine blk_drewN ?_ _ | refine blk_drew ?_ | refine blk_alloc ?_ _)); exact BK259.out), (by (with_reducible repeat (first | refine blk_drewN ?_ _ | refine blk_drew ?_ | refine blk_alloc ?_ _)); exact BK260.out), (by (with_reducible repeat (first | refine blk_drewN ?_ _ | refine blk_drew ?_ | refine blk_alloc ?_ _)); exact BK273.out), GW273.out, GE273.out, NB259_273.out, NB273_259.out, NB260_273.out, NB273_260.out, (by repeat (first | (with_reducible first | exact HB.out | apply below_alloc | apply pw_below_drewN | apply below_drew1 | refine below_set ?_ GE259.out | refine below_set ?_ GE260.out | refine below_set ?_ GE273.out) | exact HB.out))⟩)
              · skip
                rintro ⟨v266, gb272, gb273⟩ w29 ⟨hS_, h0_, h1_, h2_, h3_, h4_, h5_, h6_, h7_, h8_, h9_, h10_, h11_, h12_, h13_, h14_, h15_, h16_, h17_, h18_, h19_⟩
                have n0_ : Aside0 (Kd.S k33 33 w29 w.heap.size (fun k_ => k_ ≠ gb260 ∧ k_ ≠ gb273) v266 t265) := ⟨h0_⟩
                have n1_ : Aside0 (w29.heap[gb259]? = some (.cells #[.int .i64 a0_0, .slice A0_1 l0_1.length c0_1] 24 (0, 0))) := ⟨h1_⟩
                have n2_ : Aside0 (w29.heap[gb260]? = some (.cells #[.slice A1_0 l1_0.length c1_0, .int .i64 a1_1] 33 (0, 0))) := ⟨h2_⟩
                have n3_ : Aside0 (w29.heap[gb272]? = some (.cells #[.int .i64 0, .slice none 0 0] 24 (0, 0))) := ⟨h3_⟩
                have n4_ : Aside0 (w29.heap[gb273]? = some (.cells #[.slice none 0 0, .int .i64 0] 33 (0, 0))) := ⟨h4_⟩
                have n5_ : Aside0 (w.heap.size ≤ gb272) := ⟨h5_⟩
                have n6_ : Aside0 (w.heap.size ≤ gb272) := ⟨h6_⟩
                have n7_ : Aside0 (gb259 ≠ gb272) := ⟨h7_⟩
                have n8_ : Aside0 (gb272 ≠ gb259) := ⟨h8_⟩
                have n9_ : Aside0 (gb260 ≠ gb272) := ⟨h9_⟩
                have n10_ : Aside0 (gb272 ≠ gb260) := ⟨h10_⟩
                have n11_ : Aside0 (gb273 ≠ gb272) := ⟨h11_⟩
                have n12_ : Aside0 (gb272 ≠ gb273) := ⟨h12_⟩
                have n13_ : Aside0 (w.heap.size ≤ gb273) := ⟨h13_⟩
                have n14_ : Aside0 (w.heap.size ≤ gb273) := ⟨h14_⟩
                have n15_ : Aside0 (gb259 ≠ gb273) := ⟨h15_⟩
                have n16_ : Aside0 (gb273 ≠ gb259) := ⟨h16_⟩
                have n17_ : Aside0 (gb260 ≠ gb273) := ⟨h17_⟩
                have n18_ : Aside0 (gb273 ≠ gb260) := ⟨h18_⟩
                have n19_ : Aside0 (Below w.heap.size w w29) := ⟨h19_⟩
                clear BK259
                clear BK260
                clear HB
                clear h0_ h1_ h2_ h3_ h4_ h5_ h6_ h7_ h8_ h9_ h10_ h11_ h12_ h13_ h14_ h15_ h16_ h17_ h18_ h19_
                have HO267 := n0_
                have BK259 := n1_
                have BK260 := n2_
                have BK272 := n3_
                have BK273 := n4_
                have GW272 := n5_
                have GE272 := n6_
                have NB259_272 := n7_
                have NB272_259 := n8_
                have NB260_272 := n9_
                have NB272_260 := n10_
                have NB273_272 := n11_
                have NB272_273 := n12_
                have GW273 := n13_
                have GE273 := n14_
                have NB259_273 := n15_
                have NB273_259 := n16_
                have NB260_273 := n17_
                have NB273_260 := n18_
                have HB := n19_
                clear n0_ n1_ n2_ n3_ n4_ n5_ n6_ n7_ n8_ n9_ n10_ n11_ n12_ n13_ n14_ n15_ n16_ n17_ n18_ n19_
                have hHeld : w29.cell? ⟨gb259, 0, none⟩ = some (.int .i64 a0_0) ∧ w29.cell? ⟨gb259, 1, none⟩ = some (.slice A0_1 l0_1.length c0_1) ∧ w29.cell? ⟨gb260, 0, none⟩ = some (.slice A1_0 l1_0.length c1_0) ∧ w29.cell? ⟨gb260, 1, none⟩ = some (.int .i64 a1_1) := hS_
                refine norm_ (a' := ?_) ?_ ?_
                rotate_left
                · simp only [putAll, Act.put, List.setIfInBounds_toArray, List.set_cons_zero, List.set_cons_succ]
                  rfl
                refine one_ (i := 3) (N := some 23) #[true, true, true, true, true, true, false, false] rfl rfl (one_of HT_.out (by kernel_rfl)) (by decide) (fun K hK => ?_)
                refine goes_ Tryd.func26 (by kernel_rfl) rfl #[.agg #[.slice A1_0 l1_0.length c1_0, .int .i64 a1_1]] (by rfl) rfl rfl (by (try simp only [List.map_toArray, List.map_cons, List.map_nil]); first | done | rfl | (simp only [List.length_drop, List.length_take]; rfl)) ?_
                with_reducible refine (familycheckref01_CopyRow.calls _ _ l1_0 a1_1 t268 t271 _ ?side1 ?side2 A21.out).mono ?_
                (case side1 => repeat (first | exact (Kd.C_below HR1_0.out HB.out) | (with_reducible refine Kd.C_alloc ?_ _) | (with_reducible refine Kd.C_drewN ?_ _) | (with_reducible refine Kd.C_drew ?_)))
                (case side2 => exact HC1_0.out)
                rintro e w30 ⟨v269, rfl, ho0, hb⟩
                refine ⟨_, rfl, ?_⟩
                have n0_ := Aside0.mk (Kd.S_elder' (by (with_reducible repeat (first | apply Kd.S_alloc | apply Kd.S_drewN | apply Kd.S_drew)); exact HO267.out) (Kd.R_base ho0) hb)
                have n1_ := Aside0.mk (Kd.R_lower ho0 (below_size (by repeat (first | (with_reducible first | exact HB.out | apply below_alloc | apply pw_below_drewN | apply below_drew1 | refine below_set ?_ GE259.out | refine below_set ?_ GE260.out | refine below_set ?_ GE272.out | refine below_set ?_ GE273.out) | exact HB.out))))
                have n2_ := Aside0.mk (blk_below (g := gb259) (o := .cells #[.int .i64 a0_0, .slice A0_1 l0_1.length c0_1] 24 (0, 0)) (by (with_reducible repeat (first | refine blk_drewN ?_ _ | refine blk_drew ?_ | refine blk_alloc ?_ _)); exact BK259.out) hb)
                have n3_ := Aside0.mk (blk_below (g := gb260) (o := .cells #[.slice A1_0 l1_0.length c1_0, .int .i64 a1_1] 33 (0, 0)) (by (with_reducible repeat (first | refine blk_drewN ?_ _ | refine blk_drew ?_ | refine blk_alloc ?_ _)); exact BK260.out) hb)
                have n4_ := Aside0.mk (blk_below (g := gb272) (o := .cells #[.int .i64 0, .slice none 0 0] 24 (0, 0)) (by (with_reducible repeat (first | refine blk_drewN ?_ _ | refine blk_drew ?_ | refine blk_alloc ?_ _)); exact BK272.out) hb)
                have n5_ := Aside0.mk (blk_below (g := gb273) (o := .cells #[.slice none 0 0, .int .i64 0] 33 (0, 0)) (by (with_reducible repeat (first | refine blk_drewN ?_ _ | refine blk_drew ?_ | refine blk_alloc ?_ _)); exact BK273.out) hb)
                have n6_ := Aside0.mk (below_step (by repeat (first | (with_reducible first | exact HB.out | apply below_alloc | apply pw_below_drewN | apply below_drew1 | refine below_set ?_ GE259.out | refine below_set ?_ GE260.out | refine below_set ?_ GE272.out | refine below_set ?_ GE273.out) | exact HB.out)) hb)
                clear HO267
                clear BK259
                clear BK260
                clear BK272
                clear BK273
                clear HB
                have HO267 := n0_
                have HO270 := n1_
                have BK259 := n2_
                have BK260 := n3_
                have BK272 := n4_
                have BK273 := n5_
                have HB := n6_
                clear n0_ n1_ n2_ n3_ n4_ n5_ n6_
                (try clear hb)
                (try clear hb2)
                (try clear hk)
                (try clear hi)
                (try clear ho0)
                refine hK.out _ _ ⟨(blk_cell BK259.out 0).trans rfl, (blk_cell BK259.out 1).trans rfl, (blk_cell BK260.out 0).trans rfl, (blk_cell BK260.out 1).trans rfl⟩ (fun hHeld => ?_)
                clear hK K
                refine norm_ (a' := ?_) ?_ ?_
                rotate_left
                · show Act.put _ (some 23) _ = _
                  simp only [Act.put, List.setIfInBounds_toArray, List.set_cons_zero, List.set_cons_succ, i64_w, i32_w]
                  rfl
                exact norm_ (by first | (simp only [putAll, Act.put, List.setIfInBounds_toArray, List.set_cons_zero, List.set_cons_succ]; done) | (simp only [putAll, Act.put, List.setIfInBounds_toArray, List.set_cons_zero, List.set_cons_succ]; rfl)) (hJ1_3_4_5 (v266, v269, gb272, gb273) _ ⟨hHeld, (by (with_reducible repeat (first | apply Kd.S_alloc | apply Kd.S_drewN | apply Kd.S_drew)); exact Kd.S_mono HO267.out (fun _ hk => ⟨hk.2, ⟨hk.1.1, hk.1.2⟩⟩)), (by (with_reducible repeat (first | apply Kd.R_alloc | apply Kd.R_drewN | apply Kd.R_drew)); exact HO270.out), (by (with_reducible repeat (first | refine blk_drewN ?_ _ | refine blk_drew ?_ | refine blk_alloc ?_ _)); exact BK259.out), (by (with_reducible repeat (first | refine blk_drewN ?_ _ | refine blk_drew ?_ | refine blk_alloc ?_ _)); exact BK260.out), (by (with_reducible repeat (first | refine blk_drewN ?_ _ | refine blk_drew ?_ | refine blk_alloc ?_ _)); exact BK272.out), (by (with_reducible repeat (first | refine blk_drewN ?_ _ | refine blk_drew ?_ | refine blk_alloc ?_ _)); exact BK273.out), GW272.out, GE272.out, NB259_272.out, NB272_259.out, NB260_272.out, NB272_260.out, NB273_272.out, NB272_273.out, GW273.out, GE273.out, NB259_273.out, NB273_259.out, NB260_273.out, NB273_260.out, (by repeat (first | (with_reducible first | exact HB.out | apply below_alloc | apply pw_below_drewN | apply below_drew1 | refine below_set ?_ GE259.out | refine below_set ?_ GE260.out | refine below_set ?_ GE272.out | refine below_set ?_ GE273.out) | exact HB.out))⟩)
            · skip
              rintro ⟨v266, v269, gb273⟩ w29 ⟨hS_, h0_, h1_, h2_, h3_, h4_, h5_, h6_, h7_, h8_, h9_, h10_, h11_⟩
              have n0_ : Aside0 (Kd.S k33 33 w29 w.heap.size (fun k_ => some k_ ≠ (v269 : Value).ownBlock ∧ k_ ≠ gb260 ∧ k_ ≠ gb273) v266 t265) := ⟨h0_⟩
              have n1_ : Aside0 (Kd.R (Kd.int .i64) 3 w29 w.heap.size (fun _ => True) v269 t268) := ⟨h1_⟩
              have n2_ : Aside0 (w29.heap[gb259]? = some (.cells #[.int .i64 a0_0, .slice A0_1 l0_1.length c0_1] 24 (0, 0))) := ⟨h2_⟩
              have n3_ : Aside0 (w29.heap[gb260]? = some (.cells #[.slice A1_0 l1_0.length c1_0, .int .i64 a1_1] 33 (0, 0))) := ⟨h3_⟩
              have n4_ : Aside0 (w29.heap[gb273]? = some (.cells #[.slice none 0 0, .int .i64 0] 33 (0, 0))) := ⟨h4_⟩
              have n5_ : Aside0 (w.heap.size ≤ gb273) := ⟨h5_⟩
              have n6_ : Aside0 (w.heap.size ≤ gb273) := ⟨h6_⟩
              have n7_ : Aside0 (gb259 ≠ gb273) := ⟨h7_⟩
              have n8_ : Aside0 (gb273 ≠ gb259) := ⟨h8_⟩
              have n9_ : Aside0 (gb260 ≠ gb273) := ⟨h9_⟩
              have n10_ : Aside0 (gb273 ≠ gb260) := ⟨h10_⟩
              have n11_ : Aside0 (Below w.heap.size w w29) := ⟨h11_⟩
              clear BK259
              clear BK260
              clear HB
              clear h0_ h1_ h2_ h3_ h4_ h5_ h6_ h7_ h8_ h9_ h10_ h11_
              have HO267 := n0_
              have HO270 := n1_
              have BK259 := n2_
              have BK260 := n3_
              have BK273 := n4_
              have GW273 := n5_
              have GE273 := n6_
              have NB259_273 := n7_
              have NB273_259 := n8_
              have NB260_273 := n9_
              have NB273_260 := n10_
              have HB := n11_
              clear n0_ n1_ n2_ n3_ n4_ n5_ n6_ n7_ n8_ n9_ n10_ n11_
              have hHeld : w29.cell? ⟨gb259, 0, none⟩ = some (.int .i64 a0_0) ∧ w29.cell? ⟨gb259, 1, none⟩ = some (.slice A0_1 l0_1.length c0_1) ∧ w29.cell? ⟨gb260, 0, none⟩ = some (.slice A1_0 l1_0.length c1_0) ∧ w29.cell? ⟨gb260, 1, none⟩ = some (.int .i64 a1_1) := hS_
              refine norm_ (a' := ?_) ?_ ?_
              rotate_left
              · simp only [putAll, Act.put, List.setIfInBounds_toArray, List.set_cons_zero, List.set_cons_succ]
                rfl
              refine one_ (i := 4) (N := some 5) #[true, true, true, true, true, true, false, false] rfl rfl (one_of HT_.out (by kernel_rfl)) (by decide) (fun K hK => ?_)
              refine box_step ?hg (N := 5) ?hd (cs := #[.int .i64 0, .slice none 0 0]) (t := 24) ?hr ?_; (case hd => rfl); (case hg => rfl); (case hr => first | (go_simp; done) | (go_simp; rfl))
              intro gb272 hg w30 hbox hb
              have n0_ := Aside0.mk (Kd.S_below (by (with_reducible repeat (first | apply Kd.S_alloc | apply Kd.S_drewN | apply Kd.S_drew)); exact HO267.out) hb)
              have n1_ := Aside0.mk (Kd.R_below (by (with_reducible repeat (first | apply Kd.R_alloc | apply Kd.R_drewN | apply Kd.R_drew)); exact HO270.out) hb)
              have n2_ := Aside0.mk (blk_below (g := gb259) (o := .cells #[.int .i64 a0_0, .slice A0_1 l0_1.length c0_1] 24 (0, 0)) (by (with_reducible repeat (first | refine blk_drewN ?_ _ | refine blk_drew ?_ | refine blk_alloc ?_ _)); exact BK259.out) hb)
              have n3_ := Aside0.mk (blk_below (g := gb260) (o := .cells #[.slice A1_0 l1_0.length c1_0, .int .i64 a1_1] 33 (0, 0)) (by (with_reducible repeat (first | refine blk_drewN ?_ _ | refine blk_drew ?_ | refine blk_alloc ?_ _)); exact BK260.out) hb)
              have n4_ := Aside0.mk (blk_below (g := gb273) (o := .cells #[.slice none 0 0, .int .i64 0] 33 (0, 0)) (by (with_reducible repeat (first | refine blk_drewN ?_ _ | refine blk_drew ?_ | refine blk_alloc ?_ _)); exact BK273.out) hb)
              have n5_ := Aside0.mk (below_step (by repeat (first | (with_reducible first | exact HB.out | apply below_alloc | apply pw_below_drewN | apply below_drew1 | refine below_set ?_ GE259.out | refine below_set ?_ GE260.out | refine below_set ?_ GE273.out) | exact HB.out)) hb)
              have n6_ := Aside0.mk (hbox)
              have n7_ := Aside0.mk ((by rw [hg]; exact (below_size (by repeat (first | (with_reducible first | exact HB.out | apply below_alloc | apply pw_below_drewN | apply below_drew1 | refine below_set ?_ GE259.out | refine below_set ?_ GE260.out | refine below_set ?_ GE273.out) | exact HB.out))) : w.heap.size ≤ gb272))
              have n8_ := Aside0.mk ((by rw [hg]; exact (below_size (by repeat (first | (with_reducible first | exact HB.out | apply below_alloc | apply pw_below_drewN | apply below_drew1 | refine below_set ?_ GE259.out | refine below_set ?_ GE260.out | refine below_set ?_ GE273.out) | exact HB.out))) : w.heap.size ≤ gb272))
              have n9_ := Aside0.mk ((by rw [hg]; exact Nat.ne_of_lt (blk_lt (g := gb259) (o := .cells #[.int .i64 a0_0, .slice A0_1 l0_1.length c0_1] 24 (0, 0)) (by (with_reducible repeat (first | refine blk_drewN ?_ _ | refine blk_drew ?_ | refine blk_alloc ?_ _)); exact BK259.out)) : gb259 ≠ gb272))
              have n10_ := Aside0.mk ((by rw [hg]; exact Nat.ne_of_gt (blk_lt (g := gb259) (o := .cells #[.int .i64 a0_0, .slice A0_1 l0_1.length c0_1] 24 (0, 0)) (by (with_reducible repeat (first | refine blk_drewN ?_ _ | refine blk_drew ?_ | refine blk_alloc ?_ _)); exact BK259.out)) : gb272 ≠ gb259))
              have n11_ := Aside0.mk ((by rw [hg]; exact Nat.ne_of_lt (blk_lt (g := gb260) (o := .cells #[.slice A1_0 l1_0.length c1_0, .int .i64 a1_1] 33 (0, 0)) (by (with_reducible repeat (first | refine blk_drewN ?_ _ | refine blk_drew ?_ | refine blk_alloc ?_ _)); exact BK260.out)) : gb260 ≠ gb272))
              have n12_ := Aside0.mk ((by rw [hg]; exact Nat.ne_of_gt (blk_lt (g := gb260) (o := .cells #[.slice A1_0 l1_0.length c1_0, .int .i64 a1_1] 33 (0, 0)) (by (with_reducible repeat (first | refine blk_drewN ?_ _ | refine blk_drew ?_ | refine blk_alloc ?_ _)); exact BK260.out)) : gb272 ≠ gb260))
              have n13_ := Aside0.mk ((by rw [hg]; exact Nat.ne_of_lt (blk_lt (g := gb273) (o := .cells #[.slice none 0 0, .int .i64 0] 33 (0, 0)) (by (with_reducible repeat (first | refine blk_drewN ?_ _ | refine blk_drew ?_ | refine blk_alloc ?_ _)); exact BK273.out)) : gb273 ≠ gb272))
              have n14_ := Aside0.mk ((by rw [hg]; exact Nat.ne_of_gt (blk_lt (g := gb273) (o := .cells #[.slice none 0 0, .int .i64 0] 33 (0, 0)) (by (with_reducible repeat (first | refine blk_drewN ?_ _ | refine blk_drew ?_ | refine blk_alloc ?_ _)); exact BK273.out)) : gb272 ≠ gb273))
              clear HO267
              clear HO270
              clear BK259
              clear BK260
              clear BK273
              clear HB
              have HO267 := n0_
              have HO270 := n1_
              have BK259 := n2_
              have BK260 := n3_
              have BK273 := n4_
              have HB := n5_
              have BK272 := n6_
              have GW272 := n7_
              have GE272 := n8_
              have NB259_272 := n9_
              have NB272_259 := n10_
              have NB260_272 := n11_
              have NB272_260 := n12_
              have NB273_272 := n13_
              have NB272_273 := n14_
              clear n0_ n1_ n2_ n3_ n4_ n5_ n6_ n7_ n8_ n9_ n10_ n11_ n12_ n13_ n14_
              clear hb hbox hg
              refine hK.out _ _ ⟨(blk_cell BK259.out 0).trans rfl, (blk_cell BK259.out 1).trans rfl, (blk_cell BK260.out 0).trans rfl, (blk_cell BK260.out 1).trans rfl⟩ (fun hHeld => ?_)
              clear hK K
              refine norm_ (a' := ?_) ?_ ?_
              rotate_left
              · show Act.put _ (some 5) _ = _
                simp only [Act.put, List.setIfInBounds_toArray, List.set_cons_zero, List.set_cons_succ, i64_w, i32_w]
                rfl
              exact norm_ (by first | (simp only [putAll, Act.put, List.setIfInBounds_toArray, List.set_cons_zero, List.set_cons_succ]; done) | (simp only [putAll, Act.put, List.setIfInBounds_toArray, List.set_cons_zero, List.set_cons_succ]; rfl)) (hJ1_3_4_5 (v266, v269, gb272, gb273) _ ⟨hHeld, (by (with_reducible repeat (first | apply Kd.S_alloc | apply Kd.S_drewN | apply Kd.S_drew)); exact HO267.out), (by (with_reducible repeat (first | apply Kd.R_alloc | apply Kd.R_drewN | apply Kd.R_drew)); exact HO270.out), (by (with_reducible repeat (first | refine blk_drewN ?_ _ | refine blk_drew ?_ | refine blk_alloc ?_ _)); exact BK259.out), (by (with_reducible repeat (first | refine blk_drewN ?_ _ | refine blk_drew ?_ | refine blk_alloc ?_ _)); exact BK260.out), (by (with_reducible repeat (first | refine blk_drewN ?_ _ | refine blk_drew ?_ | refine blk_alloc ?_ _)); exact BK272.out), (by (with_reducible repeat (first | refine blk_drewN ?_ _ | refine blk_drew ?_ | refine blk_alloc ?_ _)); exact BK273.out), GW272.out, GE272.out, NB259_272.out, NB272_259.out, NB260_272.out, NB272_260.out, NB273_272.out, NB272_273.out, GW273.out, GE273.out, NB259_273.out, NB273_259.out, NB260_273.out, NB273_260.out, (by repeat (first | (with_reducible first | exact HB.out | apply below_alloc | apply pw_below_drewN | apply below_drew1 | refine below_set ?_ GE259.out | refine below_set ?_ GE260.out | refine below_set ?_ GE273.out | refine below_set ?_ GE272.out) | exact HB.out))⟩)
          · skip
            rintro ⟨v266, v269, gb272⟩ w29 ⟨hS_, h0_, h1_, h2_, h3_, h4_, h5_, h6_, h7_, h8_, h9_, h10_, h11_⟩
            have n0_ : Aside0 (Kd.S k33 33 w29 w.heap.size (fun k_ => some k_ ≠ (v269 : Value).ownBlock ∧ k_ ≠ gb260) v266 t265) := ⟨h0_⟩
            have n1_ : Aside0 (Kd.R (Kd.int .i64) 3 w29 w.heap.size (fun _ => True) v269 t268) := ⟨h1_⟩
            have n2_ : Aside0 (w29.heap[gb259]? = some (.cells #[.int .i64 a0_0, .slice A0_1 l0_1.length c0_1] 24 (0, 0))) := ⟨h2_⟩
            have n3_ : Aside0 (w29.heap[gb260]? = some (.cells #[.slice A1_0 l1_0.length c1_0, .int .i64 a1_1] 33 (0, 0))) := ⟨h3_⟩
            have n4_ : Aside0 (w29.heap[gb272]? = some (.cells #[.int .i64 0, .slice none 0 0] 24 (0, 0))) := ⟨h4_⟩
            have n5_ : Aside0 (w.heap.size ≤ gb272) := ⟨h5_⟩
            have n6_ : Aside0 (w.heap.size ≤ gb272) := ⟨h6_⟩
            have n7_ : Aside0 (gb259 ≠ gb272) := ⟨h7_⟩
            have n8_ : Aside0 (gb272 ≠ gb259) := ⟨h8_⟩
            have n9_ : Aside0 (gb260 ≠ gb272) := ⟨h9_⟩
            have n10_ : Aside0 (gb272 ≠ gb260) := ⟨h10_⟩
            have n11_ : Aside0 (Below w.heap.size w w29) := ⟨h11_⟩
            clear BK259
            clear BK260
            clear HB
            clear h0_ h1_ h2_ h3_ h4_ h5_ h6_ h7_ h8_ h9_ h10_ h11_
            have HO267 := n0_
            have HO270 := n1_
            have BK259 := n2_
            have BK260 := n3_
            have BK272 := n4_
            have GW272 := n5_
            have GE272 := n6_
            have NB259_272 := n7_
            have NB272_259 := n8_
            have NB260_272 := n9_
            have NB272_260 := n10_
            have HB := n11_
            clear n0_ n1_ n2_ n3_ n4_ n5_ n6_ n7_ n8_ n9_ n10_ n11_
            have hHeld : w29.cell? ⟨gb259, 0, none⟩ = some (.int .i64 a0_0) ∧ w29.cell? ⟨gb259, 1, none⟩ = some (.slice A0_1 l0_1.length c0_1) ∧ w29.cell? ⟨gb260, 0, none⟩ = some (.slice A1_0 l1_0.length c1_0) ∧ w29.cell? ⟨gb260, 1, none⟩ = some (.int .i64 a1_1) := hS_
            refine norm_ (a' := ?_) ?_ ?_
            rotate_left
            · simp only [putAll, Act.put, List.setIfInBounds_toArray, List.set_cons_zero, List.set_cons_succ]
              rfl
            refine one_ (i := 5) (N := some 6) #[true, true, true, true, true, true, false, false] rfl rfl (one_of HT_.out (by kernel_rfl)) (by decide) (fun K hK => ?_)
            refine box_step ?hg (N := 6) ?hd (cs := #[.slice none 0 0, .int .i64 0]) (t := 33) ?hr ?_; (case hd => rfl); (case hg => rfl); (case hr => first | (go_simp; done) | (go_simp; rfl))
            intro gb273 hg w30 hbox hb
            have n0_ := Aside0.mk (Kd.S_below (Kd.S_elderB (by (with_reducible repeat (first | apply Kd.S_alloc | apply Kd.S_drewN | apply Kd.S_drew)); exact HO267.out) gb273 (Nat.le_of_eq hg.symm)) hb)
            have n1_ := Aside0.mk (Kd.R_below (by (with_reducible repeat (first | apply Kd.R_alloc | apply Kd.R_drewN | apply Kd.R_drew)); exact HO270.out) hb)
            have n2_ := Aside0.mk (blk_below (g := gb259) (o := .cells #[.int .i64 a0_0, .slice A0_1 l0_1.length c0_1] 24 (0, 0)) (by (with_reducible repeat (first | refine blk_drewN ?_ _ | refine blk_drew ?_ | refine blk_alloc ?_ _)); exact BK259.out) hb)
            have n3_ := Aside0.mk (blk_below (g := gb260) (o := .cells #[.slice A1_0 l1_0.length c1_0, .int .i64 a1_1] 33 (0, 0)) (by (with_reducible repeat (first | refine blk_drewN ?_ _ | refine blk_drew ?_ | refine blk_alloc ?_ _)); exact BK260.out) hb)
            have n4_ := Aside0.mk (blk_below (g := gb272) (o := .cells #[.int .i64 0, .slice none 0 0] 24 (0, 0)) (by (with_reducible repeat (first | refine blk_drewN ?_ _ | refine blk_drew ?_ | refine blk_alloc ?_ _)); exact BK272.out) hb)
            have n5_ := Aside0.mk (below_step (by repeat (first | (with_reducible first | exact HB.out | apply below_alloc | apply pw_below_drewN | apply below_drew1 | refine below_set ?_ GE259.out | refine below_set ?_ GE260.out | refine below_set ?_ GE272.out) | exact HB.out)) hb)
            have n6_ := Aside0.mk (hbox)
            have n7_ := Aside0.mk ((by rw [hg]; exact (below_size (by repeat (first | (with_reducible first | exact HB.out | apply below_alloc | apply pw_below_drewN | apply below_drew1 | refine below_set ?_ GE259.out | refine below_set ?_ GE260.out | refine below_set ?_ GE272.out) | exact HB.out))) : w.heap.size ≤ gb273))
            have n8_ := Aside0.mk ((by rw [hg]; exact (below_size (by repeat (first | (with_reducible first | exact HB.out | apply below_alloc | apply pw_below_drewN | apply below_drew1 | refine below_set ?_ GE259.out | refine below_set ?_ GE260.out | refine below_set ?_ GE272.out) | exact HB.out))) : w.heap.size ≤ gb273))
            have n9_ := Aside0.mk ((by rw [hg]; exact Nat.ne_of_lt (blk_lt (g := gb259) (o := .cells #[.int .i64 a0_0, .slice A0_1 l0_1.length c0_1] 24 (0, 0)) (by (with_reducible repeat (first | refine blk_drewN ?_ _ | refine blk_drew ?_ | refine blk_alloc ?_ _)); exact BK259.out)) : gb259 ≠ gb273))
            have n10_ := Aside0.mk ((by rw [hg]; exact Nat.ne_of_gt (blk_lt (g := gb259) (o := .cells #[.int .i64 a0_0, .slice A0_1 l0_1.length c0_1] 24 (0, 0)) (by (with_reducible repeat (first | refine blk_drewN ?_ _ | refine blk_drew ?_ | refine blk_alloc ?_ _)); exact BK259.out)) : gb273 ≠ gb259))
            have n11_ := Aside0.mk ((by rw [hg]; exact Nat.ne_of_lt (blk_lt (g := gb260) (o := .cells #[.slice A1_0 l1_0.length c1_0, .int .i64 a1_1] 33 (0, 0)) (by (with_reducible repeat (first | refine blk_drewN ?_ _ | refine blk_drew ?_ | refine blk_alloc ?_ _)); exact BK260.out)) : gb260 ≠ gb273))
            have n12_ := Aside0.mk ((by rw [hg]; exact Nat.ne_of_gt (blk_lt (g := gb260) (o := .cells #[.slice A1_0 l1_0.length c1_0, .int .i64 a1_1] 33 (0, 0)) (by (with_reducible repeat (first | refine blk_drewN ?_ _ | refine blk_drew ?_ | refine blk_alloc ?_ _)); exact BK260.out)) : gb273 ≠ gb260))
            have n13_ := Aside0.mk ((by rw [hg]; exact Nat.ne_of_lt (blk_lt (g := gb272) (o := .cells #[.int .i64 0, .slice none 0 0] 24 (0, 0)) (by (with_reducible repeat (first | refine blk_drewN ?_ _ | refine blk_drew ?_ | refine blk_alloc ?_ _)); exact BK272.out)) : gb272 ≠ gb273))
            have n14_ := Aside0.mk ((by rw [hg]; exact Nat.ne_of_gt (blk_lt (g := gb272) (o := .cells #[.int .i64 0, .slice none 0 0] 24 (0, 0)) (by (with_reducible repeat (first | refine blk_drewN ?_ _ | refine blk_drew ?_ | refine blk_alloc ?_ _)); exact BK272.out)) : gb273 ≠ gb272))
            clear HO267
            clear HO270
            clear BK259
            clear BK260
            clear BK272
            clear HB
            have HO267 := n0_
            have HO270 := n1_
            have BK259 := n2_
            have BK260 := n3_
            have BK272 := n4_
            have HB := n5_
            have BK273 := n6_
            have GW273 := n7_
            have GE273 := n8_
            have NB259_273 := n9_
            have NB273_259 := n10_
            have NB260_273 := n11_
            have NB273_260 := n12_
            have NB272_273 := n13_
            have NB273_272 := n14_
            clear n0_ n1_ n2_ n3_ n4_ n5_ n6_ n7_ n8_ n9_ n10_ n11_ n12_ n13_ n14_
            clear hb hbox hg
            refine hK.out _ _ ⟨(blk_cell BK259.out 0).trans rfl, (blk_cell BK259.out 1).trans rfl, (blk_cell BK260.out 0).trans rfl, (blk_cell BK260.out 1).trans rfl⟩ (fun hHeld => ?_)
            clear hK K
            refine norm_ (a' := ?_) ?_ ?_
            rotate_left
            · show Act.put _ (some 6) _ = _
              simp only [Act.put, List.setIfInBounds_toArray, List.set_cons_zero, List.set_cons_succ, i64_w, i32_w]
              rfl
            exact norm_ (by first | (simp only [putAll, Act.put, List.setIfInBounds_toArray, List.set_cons_zero, List.set_cons_succ]; done) | (simp only [putAll, Act.put, List.setIfInBounds_toArray, List.set_cons_zero, List.set_cons_succ]; rfl)) (hJ1_3_4_5 (v266, v269, gb272, gb273) _ ⟨hHeld, (by (with_reducible repeat (first | apply Kd.S_alloc | apply Kd.S_drewN | apply Kd.S_drew)); exact Kd.S_mono HO267.out (fun _ hk => ⟨hk.1.1, ⟨hk.1.2, hk.2⟩⟩)), (by (with_reducible repeat (first | apply Kd.R_alloc | apply Kd.R_drewN | apply Kd.R_drew)); exact HO270.out), (by (with_reducible repeat (first | refine blk_drewN ?_ _ | refine blk_drew ?_ | refine blk_alloc ?_ _)); exact BK259.out), (by (with_reducible repeat (first | refine blk_drewN ?_ _ | refine blk_drew ?_ | refine blk_alloc ?_ _)); exact BK260.out), (by (with_reducible repeat (first | refine blk_drewN ?_ _ | refine blk_drew ?_ | refine blk_alloc ?_ _)); exact BK272.out), (by (with_reducible repeat (first | refine blk_drewN ?_ _ | refine blk_drew ?_ | refine blk_alloc ?_ _)); exact BK273.out), GW272.out, GE272.out, NB259_272.out, NB272_259.out, NB260_272.out, NB272_260.out, NB273_272.out, NB272_273.out, GW273.out, GE273.out, NB259_273.out, NB273_259.out, NB260_273.out, NB273_260.out, (by repeat (first | (with_reducible first | exact HB.out | apply below_alloc | apply pw_below_drewN | apply below_drew1 | refine below_set ?_ GE259.out | refine below_set ?_ GE260.out | refine below_set ?_ GE272.out | refine below_set ?_ GE273.out) | exact HB.out))⟩)
        rintro ⟨v266, v269, gb272, gb273⟩ w30 ⟨hS_, h0_, h1_, h2_, h3_, h4_, h5_, h6_, h7_, h8_, h9_, h10_, h11_, h12_, h13_, h14_, h15_, h16_, h17_, h18_, h19_, h20_⟩
        have n0_ : Aside0 (Kd.S k33 33 w30 w.heap.size (fun k_ => some k_ ≠ (v269 : Value).ownBlock ∧ k_ ≠ gb260 ∧ k_ ≠ gb273) v266 t265) := ⟨h0_⟩
        have n1_ : Aside0 (Kd.R (Kd.int .i64) 3 w30 w.heap.size (fun _ => True) v269 t268) := ⟨h1_⟩
        have n2_ : Aside0 (w30.heap[gb259]? = some (.cells #[.int .i64 a0_0, .slice A0_1 l0_1.length c0_1] 24 (0, 0))) := ⟨h2_⟩
        have n3_ : Aside0 (w30.heap[gb260]? = some (.cells #[.slice A1_0 l1_0.length c1_0, .int .i64 a1_1] 33 (0, 0))) := ⟨h3_⟩
        have n4_ : Aside0 (w30.heap[gb272]? = some (.cells #[.int .i64 0, .slice none 0 0] 24 (0, 0))) := ⟨h4_⟩
        have n5_ : Aside0 (w30.heap[gb273]? = some (.cells #[.slice none 0 0, .int .i64 0] 33 (0, 0))) := ⟨h5_⟩
        have n6_ : Aside0 (w.heap.size ≤ gb272) := ⟨h6_⟩
        have n7_ : Aside0 (w.heap.size ≤ gb272) := ⟨h7_⟩
        have n8_ : Aside0 (gb259 ≠ gb272) := ⟨h8_⟩
        have n9_ : Aside0 (gb272 ≠ gb259) := ⟨h9_⟩
        have n10_ : Aside0 (gb260 ≠ gb272) := ⟨h10_⟩
        have n11_ : Aside0 (gb272 ≠ gb260) := ⟨h11_⟩
        have n12_ : Aside0 (gb273 ≠ gb272) := ⟨h12_⟩
        have n13_ : Aside0 (gb272 ≠ gb273) := ⟨h13_⟩
        have n14_ : Aside0 (w.heap.size ≤ gb273) := ⟨h14_⟩
        have n15_ : Aside0 (w.heap.size ≤ gb273) := ⟨h15_⟩
        have n16_ : Aside0 (gb259 ≠ gb273) := ⟨h16_⟩
        have n17_ : Aside0 (gb273 ≠ gb259) := ⟨h17_⟩
        have n18_ : Aside0 (gb260 ≠ gb273) := ⟨h18_⟩
        have n19_ : Aside0 (gb273 ≠ gb260) := ⟨h19_⟩
        have n20_ : Aside0 (Below w.heap.size w w30) := ⟨h20_⟩
        clear BK259
        clear BK260
        clear HB
        clear h0_ h1_ h2_ h3_ h4_ h5_ h6_ h7_ h8_ h9_ h10_ h11_ h12_ h13_ h14_ h15_ h16_ h17_ h18_ h19_ h20_
        have HO267 := n0_
        have HO270 := n1_
        have BK259 := n2_
        have BK260 := n3_
        have BK272 := n4_
        have BK273 := n5_
        have GW272 := n6_
        have GE272 := n7_
        have NB259_272 := n8_
        have NB272_259 := n9_
        have NB260_272 := n10_
        have NB272_260 := n11_
        have NB273_272 := n12_
        have NB272_273 := n13_
        have GW273 := n14_
        have GE273 := n15_
        have NB259_273 := n16_
        have NB273_259 := n17_
        have NB260_273 := n18_
        have NB273_260 := n19_
        have HB := n20_
        clear n0_ n1_ n2_ n3_ n4_ n5_ n6_ n7_ n8_ n9_ n10_ n11_ n12_ n13_ n14_ n15_ n16_ n17_ n18_ n19_ n20_
        have hHeld : w30.cell? ⟨gb259, 0, none⟩ = some (.int .i64 a0_0) ∧ w30.cell? ⟨gb259, 1, none⟩ = some (.slice A0_1 l0_1.length c0_1) ∧ w30.cell? ⟨gb260, 0, none⟩ = some (.slice A1_0 l1_0.length c1_0) ∧ w30.cell? ⟨gb260, 1, none⟩ = some (.int .i64 a1_1) := hS_
        obtain ⟨Ao32, co32, eo32⟩ := Kd.S_slice HO267.out
        (first | subst eo32 | (injection eo32 with f1_ f2_ f3_; have f4_ := f1_.symm; have f5_ := f3_.symm; clear f1_ f2_ f3_; subst f4_; subst f5_))
        obtain ⟨Ao34, co34, eo34⟩ := Kd.R_slice HO270.out
        (first | subst eo34 | (injection eo34 with f1_ f2_ f3_; have f4_ := f1_.symm; have f5_ := f3_.symm; clear f1_ f2_ f3_; subst f4_; subst f5_))
        refine norm_ (a' := ?_) ?_ ?_
        rotate_left
        · simp only [putAll, Act.put, List.setIfInBounds_toArray, List.set_cons_zero, List.set_cons_succ]
          rfl
        refine one_ (i := 6) (N := none) #[true, true, true, true, true, true, true, false] rfl rfl (one_of HT_.out (by kernel_rfl)) (by decide) (fun K hK => ?_)
        have hs31 : w30.cell? ⟨gb272, 0, none⟩ = some (.int .i64 0) := (blk_cell BK272.out 0).trans rfl
        have hfs31 := blk_frozen BK272.out 0
        have hns31_0 := NB259_272.out
        have hns31_1 := NB260_272.out
        have hns31_3 := NB273_272.out
        have hms31_0 := NB272_259.out
        have hms31_1 := NB272_260.out
        have hms31_3 := NB272_273.out
        have hs33 : w30.cell? ⟨gb272, 1, none⟩ = some (.slice none 0 0) := (blk_cell BK272.out 1).trans rfl
        have hfs33 := blk_frozen BK272.out 1
        have hns33_0 := NB259_272.out
        have hns33_1 := NB260_272.out
        have hns33_3 := NB273_272.out
        have hms33_0 := NB272_259.out
        have hms33_1 := NB272_260.out
        have hms33_3 := NB272_273.out
        refine skip_ (w1 := ?_) (by rfl) rfl ?_ ?_
        rotate_left
        · go_simp
          rfl
        refine hK.out _ _ ⟨((cell_far (p := ⟨gb272, _, none⟩) NB259_272.out _).trans (((cell_far (p := ⟨gb272, _, none⟩) NB259_272.out _).trans (hHeld.1)))), ((cell_far (p := ⟨gb272, _, none⟩) NB259_272.out _).trans (((cell_far (p := ⟨gb272, _, none⟩) NB259_272.out _).trans (hHeld.2.1)))), ((cell_far (p := ⟨gb272, _, none⟩) NB260_272.out _).trans (((cell_far (p := ⟨gb272, _, none⟩) NB260_272.out _).trans (hHeld.2.2.1)))), ((cell_far (p := ⟨gb272, _, none⟩) NB260_272.out _).trans (((cell_far (p := ⟨gb272, _, none⟩) NB260_272.out _).trans (hHeld.2.2.2))))⟩ (fun hHeld => ?_)
        clear hK K
        refine one_ (i := 7) (N := none) #[true, true, true, true, true, true, true, true] rfl rfl (one_of HT_.out (by kernel_rfl)) (by decide) (fun K hK => ?_)
        have hs35 : w30.cell? ⟨gb273, 0, none⟩ = some (.slice none 0 0) := (blk_cell BK273.out 0).trans rfl
        have hfs35 := blk_frozen BK273.out 0
        have hns35_0 := NB259_273.out
        have hns35_1 := NB260_273.out
        have hns35_2 := NB272_273.out
        have hms35_0 := NB273_259.out
        have hms35_1 := NB273_260.out
        have hms35_2 := NB273_272.out
        have hs36 : w30.cell? ⟨gb273, 1, none⟩ = some (.int .i64 0) := (blk_cell BK273.out 1).trans rfl
        have hfs36 := blk_frozen BK273.out 1
        have hns36_0 := NB259_273.out
        have hns36_1 := NB260_273.out
        have hns36_2 := NB272_273.out
        have hms36_0 := NB273_259.out
        have hms36_1 := NB273_260.out
        have hms36_2 := NB273_272.out
        refine skip_ (w1 := ?_) (by rfl) rfl ?_ ?_
        rotate_left
        · go_simp
          rfl
        refine hK.out _ _ ⟨((cell_far (p := ⟨gb273, _, none⟩) NB259_273.out _).trans (((cell_far (p := ⟨gb273, _, none⟩) NB259_273.out _).trans (hHeld.1)))), ((cell_far (p := ⟨gb273, _, none⟩) NB259_273.out _).trans (((cell_far (p := ⟨gb273, _, none⟩) NB259_273.out _).trans (hHeld.2.1)))), ((cell_far (p := ⟨gb273, _, none⟩) NB260_273.out _).trans (((cell_far (p := ⟨gb273, _, none⟩) NB260_273.out _).trans (hHeld.2.2.1)))), ((cell_far (p := ⟨gb273, _, none⟩) NB260_273.out _).trans (((cell_far (p := ⟨gb273, _, none⟩) NB260_273.out _).trans (hHeld.2.2.2))))⟩ (fun hHeld => ?_)
        clear hK K
        refine done_ (done_of HT_.out (by kernel_rfl)) ?_
        have hnb37 := NB272_259.out
        have hnc37 := NB259_272.out
        have hnb38 := NB272_260.out
        have hnc38 := NB260_272.out
        have hnb39 := NB272_273.out
        have hnc39 := NB273_272.out
        have hcz40_0 : w30.cell? ⟨gb272, 0, none⟩ = some (.int .i64 0) := (blk_cell BK272.out 0).trans rfl
        have hcz40_1 : w30.cell? ⟨gb272, 1, none⟩ = some (.slice none 0 0) := (blk_cell BK272.out 1).trans rfl
        have hfz40_0 := blk_frozen BK272.out 0
        have hfz40_1 := blk_frozen BK272.out 1
        have hnb41 := NB273_259.out
        have hnc41 := NB259_273.out
        have hnb42 := NB273_260.out
        have hnc42 := NB260_273.out
        have hcz43_0 : w30.cell? ⟨gb273, 0, none⟩ = some (.slice none 0 0) := (blk_cell BK273.out 0).trans rfl
        have hcz43_1 : w30.cell? ⟨gb273, 1, none⟩ = some (.int .i64 0) := (blk_cell BK273.out 1).trans rfl
        have hfz43_0 := blk_frozen BK273.out 0
        have hfz43_1 := blk_frozen BK273.out 1
        go_upto_region 6 with (first | ((with_reducible refine gate_callee (f := 41) rfl ?_); refine goesL_ (some 27) rfl rfl Tryd.func41 (by kernel_rfl) rfl #[.agg #[.int .i64 t264, .slice Ao32 t265.length co32], .agg #[.slice Ao34 t268.length co34, .int .i64 t271]] rfl (by (try simp only [List.map_toArray, List.map_cons, List.map_nil]); first | done | rfl | (simp only [List.length_drop, List.length_take]; rfl)) ?_; (with_reducible refine (linear_Append.calls kj2 t264 _ _ t265 _ _ t268 t271 t274 t275 t278 _ ?side1 ?side2 ?side3 ?side4 A22.out).mono ?_); (case side1 => refine (Kd.S_reads' (e := 33) (base := w.heap.size) (ok := fun k_ => (some k_ ≠ (.slice Ao34 t268.length co34 : Value).ownBlock ∧ (k_ ≠ gb260 ∧ k_ ≠ gb273))) (n := t265.length) (c := co32) ?_).2.2; exact (by (with_reducible repeat (first | apply Kd.S_alloc | apply Kd.S_drewN | apply Kd.S_drew)); exact (Kd.S_mono (Kd.S_mono (Kd.S_far (p := ⟨gb273, 1, none⟩) (Kd.S_far (p := ⟨gb273, 0, none⟩) (Kd.S_far (p := ⟨gb272, 1, none⟩) (Kd.S_far (p := ⟨gb272, 0, none⟩) (Kd.S_mono (Kd.S_types HO267.out BK272.out (by decide)) (fun k_ hk => (⟨hk, hk.1.2.2⟩ : _ ∧ k_ ≠ gb273))) (fun _ hk => hk.1.2) (.int .i64 t264)) (fun _ hk => hk.1.2) (.slice Ao32 t265.length co32)) (fun _ hk => hk.2) (.slice Ao34 t268.length co34)) (fun _ hk => hk.2) (.int .i64 t271)) (fun _ h_ => h_.1)) (fun _ h_ => h_.1)))); (case side2 => exact (Kd.S_reads' HO267.out).2.1); (case side3 => refine (Kd.R_reads' (e := 3) (base := w.heap.size) (ok := fun k_ => True) (n := t268.length) (c := co34) ?_).2.2; exact (by (with_reducible repeat (first | apply Kd.R_alloc | apply Kd.R_drewN | apply Kd.R_drew)); exact (Kd.R_mono (Kd.R_mono (Kd.R_far (p := ⟨gb273, 1, none⟩) (Kd.R_far (p := ⟨gb273, 0, none⟩) (Kd.R_far (p := ⟨gb272, 1, none⟩) (Kd.R_far (p := ⟨gb272, 0, none⟩) (Kd.R_types (Kd.R_types HO270.out BK272.out (by decide)) BK273.out (by decide)) (fun _ hk => hk.1.2) (.int .i64 t264)) (fun _ hk => hk.1.2) (.slice Ao32 t265.length co32)) (fun _ hk => hk.2) (.slice Ao34 t268.length co34)) (fun _ hk => hk.2) (.int .i64 t271)) (fun _ h_ => h_.1)) (fun _ h_ => h_.1)))); (case side4 => exact (Kd.R_reads' HO270.out).2.1); rintro e w44 ⟨v276, rfl, ho0, hb⟩; refine ⟨_, rfl, ?_⟩; have WA_ : ∃ wA : World, Aside0 (Below wA.heap.size wA w44) ∧ Aside0 (Kd.S k33 33 w44 wA.heap.size (fun _ => True) v276 t275) ∧ Aside0 (Kd.S k33 33 wA w.heap.size (fun k_ => (some k_ ≠ (.slice Ao34 t268.length co34 : Value).ownBlock ∧ (k_ ≠ gb260 ∧ k_ ≠ gb273))) (.slice Ao32 t265.length co32) t265) ∧ Aside0 (Kd.R (Kd.int .i64) 3 wA w.heap.size (fun k_ => True) (.slice Ao34 t268.length co34) t268) ∧ Aside0 (wA.heap[gb259]? = some (.cells #[.int .i64 a0_0, .slice A0_1 l0_1.length c0_1] 24 (0, 0))) ∧ Aside0 (wA.heap[gb260]? = some (.cells #[.slice A1_0 l1_0.length c1_0, .int .i64 a1_1] 33 (0, 0))) ∧ Aside0 (wA.heap[gb272]? = some (.cells #[.int .i64 t264, .slice Ao32 t265.length co32] 24 (0, 0))) ∧ Aside0 (wA.heap[gb273]? = some (.cells #[.slice Ao34 t268.length co34, .int .i64 t271] 33 (0, 0))) ∧ Aside0 (Below w.heap.size w wA) := ⟨_, ⟨hb⟩, ⟨ho0⟩, ⟨(by (with_reducible repeat (first | apply Kd.S_alloc | apply Kd.S_drewN | apply Kd.S_drew)); exact (Kd.S_mono (Kd.S_mono (Kd.S_far (p := ⟨gb273, 1, none⟩) (Kd.S_far (p := ⟨gb273, 0, none⟩) (Kd.S_far (p := ⟨gb272, 1, none⟩) (Kd.S_far (p := ⟨gb272, 0, none⟩) (Kd.S_mono (Kd.S_types HO267.out BK272.out (by decide)) (fun k_ hk => (⟨hk, hk.1.2.2⟩ : _ ∧ k_ ≠ gb273))) (fun _ hk => hk.1.2) (.int .i64 t264)) (fun _ hk => hk.1.2) (.slice Ao32 t265.length co32)) (fun _ hk => hk.2) (.slice Ao34 t268.length co34)) (fun _ hk => hk.2) (.int .i64 t271)) (fun _ h_ => h_.1)) (fun _ h_ => h_.1)))⟩, ⟨(by (with_reducible repeat (first | apply Kd.R_alloc | apply Kd.R_drewN | apply Kd.R_drew)); exact (Kd.R_mono (Kd.R_mono (Kd.R_far (p := ⟨gb273, 1, none⟩) (Kd.R_far (p := ⟨gb273, 0, none⟩) (Kd.R_far (p := ⟨gb272, 1, none⟩) (Kd.R_far (p := ⟨gb272, 0, none⟩) (Kd.R_types (Kd.R_types HO270.out BK272.out (by decide)) BK273.out (by decide)) (fun _ hk => hk.1.2) (.int .i64 t264)) (fun _ hk => hk.1.2) (.slice Ao32 t265.length co32)) (fun _ hk => hk.2) (.slice Ao34 t268.length co34)) (fun _ hk => hk.2) (.int .i64 t271)) (fun _ h_ => h_.1)) (fun _ h_ => h_.1)))⟩, ⟨(by (with_reducible repeat (first | refine blk_drewN ?_ _ | refine blk_drew ?_ | refine blk_alloc ?_ _)); refine blk_far ?_ NB259_273.out _; (with_reducible repeat (first | refine blk_drewN ?_ _ | refine blk_drew ?_ | refine blk_alloc ?_ _)); refine blk_far ?_ NB259_273.out _; (with_reducible repeat (first | refine blk_drewN ?_ _ | refine blk_drew ?_ | refine blk_alloc ?_ _)); refine blk_far ?_ NB259_272.out _; (with_reducible repeat (first | refine blk_drewN ?_ _ | refine blk_drew ?_ | refine blk_alloc ?_ _)); refine blk_far ?_ NB259_272.out _; (with_reducible repeat (first | refine blk_drewN ?_ _ | refine blk_drew ?_ | refine blk_alloc ?_ _)); exact BK259.out)⟩, ⟨(by (with_reducible repeat (first | refine blk_drewN ?_ _ | refine blk_drew ?_ | refine blk_alloc ?_ _)); refine blk_far ?_ NB260_273.out _; (with_reducible repeat (first | refine blk_drewN ?_ _ | refine blk_drew ?_ | refine blk_alloc ?_ _)); refine blk_far ?_ NB260_273.out _; (with_reducible repeat (first | refine blk_drewN ?_ _ | refine blk_drew ?_ | refine blk_alloc ?_ _)); refine blk_far ?_ NB260_272.out _; (with_reducible repeat (first | refine blk_drewN ?_ _ | refine blk_drew ?_ | refine blk_alloc ?_ _)); refine blk_far ?_ NB260_272.out _; (with_reducible repeat (first | refine blk_drewN ?_ _ | refine blk_drew ?_ | refine blk_alloc ?_ _)); exact BK260.out)⟩, ⟨(by (with_reducible repeat (first | refine blk_drewN ?_ _ | refine blk_drew ?_ | refine blk_alloc ?_ _)); refine blk_far ?_ NB272_273.out _; (with_reducible repeat (first | refine blk_drewN ?_ _ | refine blk_drew ?_ | refine blk_alloc ?_ _)); refine blk_far ?_ NB272_273.out _; (with_reducible repeat (first | refine blk_drewN ?_ _ | refine blk_drew ?_ | refine blk_alloc ?_ _)); refine blk_put (cs := #[.int .i64 t264, .slice none 0 0]) ?_ 1 _ rfl; (with_reducible repeat (first | refine blk_drewN ?_ _ | refine blk_drew ?_ | refine blk_alloc ?_ _)); refine blk_put (cs := #[.int .i64 0, .slice none 0 0]) ?_ 0 _ rfl; (with_reducible repeat (first | refine blk_drewN ?_ _ | refine blk_drew ?_ | refine blk_alloc ?_ _)); exact BK272.out)⟩, ⟨(by (with_reducible repeat (first | refine blk_drewN ?_ _ | refine blk_drew ?_ | refine blk_alloc ?_ _)); refine blk_put (cs := #[.slice Ao34 t268.length co34, .int .i64 0]) ?_ 1 _ rfl; (with_reducible repeat (first | refine blk_drewN ?_ _ | refine blk_drew ?_ | refine blk_alloc ?_ _)); refine blk_put (cs := #[.slice none 0 0, .int .i64 0]) ?_ 0 _ rfl; (with_reducible repeat (first | refine blk_drewN ?_ _ | refine blk_drew ?_ | refine blk_alloc ?_ _)); refine blk_far ?_ NB273_272.out _; (with_reducible repeat (first | refine blk_drewN ?_ _ | refine blk_drew ?_ | refine blk_alloc ?_ _)); refine blk_far ?_ NB273_272.out _; (with_reducible repeat (first | refine blk_drewN ?_ _ | refine blk_drew ?_ | refine blk_alloc ?_ _)); exact BK273.out)⟩, ⟨(by repeat (first | (with_reducible first | exact HB.out | apply below_alloc | apply pw_below_drewN | apply below_drew1 | refine below_set ?_ GE259.out | refine below_set ?_ GE260.out | refine below_set ?_ GE272.out | refine below_set ?_ GE273.out) | exact HB.out))⟩⟩; obtain ⟨wA, HXA, HXT, WO, WR, Wgb259, Wgb260, Wgb272, Wgb273, WB⟩ := WA_; have n0_ := Aside0.mk (Kd.S_elder' (by (with_reducible repeat (first | apply Kd.S_alloc | apply Kd.S_drewN | apply Kd.S_drew)); exact (Kd.S_mono (Kd.S_mono (Kd.S_far (p := ⟨gb273, 1, none⟩) (Kd.S_far (p := ⟨gb273, 0, none⟩) (Kd.S_far (p := ⟨gb272, 1, none⟩) (Kd.S_far (p := ⟨gb272, 0, none⟩) (Kd.S_mono (Kd.S_types HO267.out BK272.out (by decide)) (fun k_ hk => (⟨hk, hk.1.2.2⟩ : _ ∧ k_ ≠ gb273))) (fun _ hk => hk.1.2) (.int .i64 t264)) (fun _ hk => hk.1.2) (.slice Ao32 t265.length co32)) (fun _ hk => hk.2) (.slice Ao34 t268.length co34)) (fun _ hk => hk.2) (.int .i64 t271)) (fun _ h_ => h_.1)) (fun _ h_ => h_.1))) (Kd.S_base ho0) hb); have n1_ := Aside0.mk (Kd.R_below (by (with_reducible repeat (first | apply Kd.R_alloc | apply Kd.R_drewN | apply Kd.R_drew)); exact (Kd.R_mono (Kd.R_mono (Kd.R_far (p := ⟨gb273, 1, none⟩) (Kd.R_far (p := ⟨gb273, 0, none⟩) (Kd.R_far (p := ⟨gb272, 1, none⟩) (Kd.R_far (p := ⟨gb272, 0, none⟩) (Kd.R_types (Kd.R_types HO270.out BK272.out (by decide)) BK273.out (by decide)) (fun _ hk => hk.1.2) (.int .i64 t264)) (fun _ hk => hk.1.2) (.slice Ao32 t265.length co32)) (fun _ hk => hk.2) (.slice Ao34 t268.length co34)) (fun _ hk => hk.2) (.int .i64 t271)) (fun _ h_ => h_.1)) (fun _ h_ => h_.1))) hb); have n2_ := Aside0.mk (Kd.S_lower (Kd.S_newB (Kd.S_newB (Kd.S_new' (Kd.S_new' ho0 (Kd.S_lt (by (with_reducible repeat (first | apply Kd.S_alloc | apply Kd.S_drewN | apply Kd.S_drew)); exact (Kd.S_mono (Kd.S_mono (Kd.S_far (p := ⟨gb273, 1, none⟩) (Kd.S_far (p := ⟨gb273, 0, none⟩) (Kd.S_far (p := ⟨gb272, 1, none⟩) (Kd.S_far (p := ⟨gb272, 0, none⟩) (Kd.S_mono (Kd.S_types HO267.out BK272.out (by decide)) (fun k_ hk => (⟨hk, hk.1.2.2⟩ : _ ∧ k_ ≠ gb273))) (fun _ hk => hk.1.2) (.int .i64 t264)) (fun _ hk => hk.1.2) (.slice Ao32 t265.length co32)) (fun _ hk => hk.2) (.slice Ao34 t268.length co34)) (fun _ hk => hk.2) (.int .i64 t271)) (fun _ h_ => h_.1)) (fun _ h_ => h_.1))))) (Kd.R_lt (by (with_reducible repeat (first | apply Kd.R_alloc | apply Kd.R_drewN | apply Kd.R_drew)); exact (Kd.R_mono (Kd.R_mono (Kd.R_far (p := ⟨gb273, 1, none⟩) (Kd.R_far (p := ⟨gb273, 0, none⟩) (Kd.R_far (p := ⟨gb272, 1, none⟩) (Kd.R_far (p := ⟨gb272, 0, none⟩) (Kd.R_types (Kd.R_types HO270.out BK272.out (by decide)) BK273.out (by decide)) (fun _ hk => hk.1.2) (.int .i64 t264)) (fun _ hk => hk.1.2) (.slice Ao32 t265.length co32)) (fun _ hk => hk.2) (.slice Ao34 t268.length co34)) (fun _ hk => hk.2) (.int .i64 t271)) (fun _ h_ => h_.1)) (fun _ h_ => h_.1))))) (g := gb260) (o := .cells #[.slice A1_0 l1_0.length c1_0, .int .i64 a1_1] 33 (0, 0)) (by (with_reducible repeat (first | refine blk_drewN ?_ _ | refine blk_drew ?_ | refine blk_alloc ?_ _)); refine blk_far ?_ NB260_273.out _; (with_reducible repeat (first | refine blk_drewN ?_ _ | refine blk_drew ?_ | refine blk_alloc ?_ _)); refine blk_far ?_ NB260_273.out _; (with_reducible repeat (first | refine blk_drewN ?_ _ | refine blk_drew ?_ | refine blk_alloc ?_ _)); refine blk_far ?_ NB260_272.out _; (with_reducible repeat (first | refine blk_drewN ?_ _ | refine blk_drew ?_ | refine blk_alloc ?_ _)); refine blk_far ?_ NB260_272.out _; (with_reducible repeat (first | refine blk_drewN ?_ _ | refine blk_drew ?_ | refine blk_alloc ?_ _)); exact BK260.out)) (g := gb273) (o := .cells #[.slice Ao34 t268.length co34, .int .i64 t271] 33 (0, 0)) (by (with_reducible repeat (first | refine blk_drewN ?_ _ | refine blk_drew ?_ | refine blk_alloc ?_ _)); refine blk_put (cs := #[.slice Ao34 t268.length co34, .int .i64 0]) ?_ 1 _ rfl; (with_reducible repeat (first | refine blk_drewN ?_ _ | refine blk_drew ?_ | refine blk_alloc ?_ _)); refine blk_put (cs := #[.slice none 0 0, .int .i64 0]) ?_ 0 _ rfl; (with_reducible repeat (first | refine blk_drewN ?_ _ | refine blk_drew ?_ | refine blk_alloc ?_ _)); refine blk_far ?_ NB273_272.out _; (with_reducible repeat (first | refine blk_drewN ?_ _ | refine blk_drew ?_ | refine blk_alloc ?_ _)); refine blk_far ?_ NB273_272.out _; (with_reducible repeat (first | refine blk_drewN ?_ _ | refine blk_drew ?_ | refine blk_alloc ?_ _)); exact BK273.out)) (below_size (by repeat (first | (with_reducible first | exact HB.out | apply below_alloc | apply pw_below_drewN | apply below_drew1 | refine below_set ?_ GE259.out | refine below_set ?_ GE260.out | refine below_set ?_ GE272.out | refine below_set ?_ GE273.out) | exact HB.out)))); have n3_ := Aside0.mk (blk_below (g := gb259) (o := .cells #[.int .i64 a0_0, .slice A0_1 l0_1.length c0_1] 24 (0, 0)) (by (with_reducible repeat (first | refine blk_drewN ?_ _ | refine blk_drew ?_ | refine blk_alloc ?_ _)); refine blk_far ?_ NB259_273.out _; (with_reducible repeat (first | refine blk_drewN ?_ _ | refine blk_drew ?_ | refine blk_alloc ?_ _)); refine blk_far ?_ NB259_273.out _; (with_reducible repeat (first | refine blk_drewN ?_ _ | refine blk_drew ?_ | refine blk_alloc ?_ _)); refine blk_far ?_ NB259_272.out _; (with_reducible repeat (first | refine blk_drewN ?_ _ | refine blk_drew ?_ | refine blk_alloc ?_ _)); refine blk_far ?_ NB259_272.out _; (with_reducible repeat (first | refine blk_drewN ?_ _ | refine blk_drew ?_ | refine blk_alloc ?_ _)); exact BK259.out) hb); have n4_ := Aside0.mk (blk_below (g := gb260) (o := .cells #[.slice A1_0 l1_0.length c1_0, .int .i64 a1_1] 33 (0, 0)) (by (with_reducible repeat (first | refine blk_drewN ?_ _ | refine blk_drew ?_ | refine blk_alloc ?_ _)); refine blk_far ?_ NB260_273.out _; (with_reducible repeat (first | refine blk_drewN ?_ _ | refine blk_drew ?_ | refine blk_alloc ?_ _)); refine blk_far ?_ NB260_273.out _; (with_reducible repeat (first | refine blk_drewN ?_ _ | refine blk_drew ?_ | refine blk_alloc ?_ _)); refine blk_far ?_ NB260_272.out _; (with_reducible repeat (first | refine blk_drewN ?_ _ | refine blk_drew ?_ | refine blk_alloc ?_ _)); refine blk_far ?_ NB260_272.out _; (with_reducible repeat (first | refine blk_drewN ?_ _ | refine blk_drew ?_ | refine blk_alloc ?_ _)); exact BK260.out) hb); have n5_ := Aside0.mk (blk_below (g := gb272) (o := .cells #[.int .i64 t264, .slice Ao32 t265.length co32] 24 (0, 0)) (by (with_reducible repeat (first | refine blk_drewN ?_ _ | refine blk_drew ?_ | refine blk_alloc ?_ _)); refine blk_far ?_ NB272_273.out _; (with_reducible repeat (first | refine blk_drewN ?_ _ | refine blk_drew ?_ | refine blk_alloc ?_ _)); refine blk_far ?_ NB272_273.out _; (with_reducible repeat (first | refine blk_drewN ?_ _ | refine blk_drew ?_ | refine blk_alloc ?_ _)); refine blk_put (cs := #[.int .i64 t264, .slice none 0 0]) ?_ 1 _ rfl; (with_reducible repeat (first | refine blk_drewN ?_ _ | refine blk_drew ?_ | refine blk_alloc ?_ _)); refine blk_put (cs := #[.int .i64 0, .slice none 0 0]) ?_ 0 _ rfl; (with_reducible repeat (first | refine blk_drewN ?_ _ | refine blk_drew ?_ | refine blk_alloc ?_ _)); exact BK272.out) hb); have n6_ := Aside0.mk (blk_below (g := gb273) (o := .cells #[.slice Ao34 t268.length co34, .int .i64 t271] 33 (0, 0)) (by (with_reducible repeat (first | refine blk_drewN ?_ _ | refine blk_drew ?_ | refine blk_alloc ?_ _)); refine blk_put (cs := #[.slice Ao34 t268.length co34, .int .i64 0]) ?_ 1 _ rfl; (with_reducible repeat (first | refine blk_drewN ?_ _ | refine blk_drew ?_ | refine blk_alloc ?_ _)); refine blk_put (cs := #[.slice none 0 0, .int .i64 0]) ?_ 0 _ rfl; (with_reducible repeat (first | refine blk_drewN ?_ _ | refine blk_drew ?_ | refine blk_alloc ?_ _)); refine blk_far ?_ NB273_272.out _; (with_reducible repeat (first | refine blk_drewN ?_ _ | refine blk_drew ?_ | refine blk_alloc ?_ _)); refine blk_far ?_ NB273_272.out _; (with_reducible repeat (first | refine blk_drewN ?_ _ | refine blk_drew ?_ | refine blk_alloc ?_ _)); exact BK273.out) hb); have n7_ := Aside0.mk (below_step (by repeat (first | (with_reducible first | exact HB.out | apply below_alloc | apply pw_below_drewN | apply below_drew1 | refine below_set ?_ GE259.out | refine below_set ?_ GE260.out | refine below_set ?_ GE272.out | refine below_set ?_ GE273.out) | exact HB.out)) hb); clear HO267; clear HO270; clear BK259; clear BK260; clear BK272; clear BK273; clear HB; have HO267 := n0_; have HO270 := n1_; have HO277 := n2_; have BK259 := n3_; have BK260 := n4_; have BK272 := n5_; have BK273 := n6_; have HB := n7_; clear n0_ n1_ n2_ n3_ n4_ n5_ n6_ n7_; (try clear hb); (try clear hb2); (try clear hk); (try clear hi); (try clear ho0)) | ((with_reducible refine gate_dst (N := 7) rfl ?_); refine box_event ?hg (N := 7) ?hd (cs := #[.int .i64 0, .slice none 0 0]) (t := 24) ?hr ?_; (case hd => rfl); (case hg => rfl); (case hr => first | (go_simp; done) | (go_simp; rfl)); intro gb279 hg w45 hbox hb; have A1_ := Aside0.mk (below_step (by repeat (first | (with_reducible first | exact HXA.out | apply below_alloc | apply pw_below_drewN | apply below_drew1) | exact HXA.out)) hb); have A3_ := Aside0.mk (Kd.S_below (by (with_reducible repeat (first | apply Kd.S_alloc | apply Kd.S_drewN | apply Kd.S_drew)); exact HXT.out) hb); have A2_ : Aside0 (wA.heap.size ≤ gb279) := ⟨by rw [hg]; exact (below_size (by repeat (first | (with_reducible first | exact HXA.out | apply below_alloc | apply pw_below_drewN | apply below_drew1) | exact HXA.out)))⟩; clear HXA HXT; have HXA := A1_; have HXT := A3_; have GA279 := A2_; clear A1_ A2_ A3_; have n0_ := Aside0.mk (Kd.S_below (by (with_reducible repeat (first | apply Kd.S_alloc | apply Kd.S_drewN | apply Kd.S_drew)); exact HO267.out) hb); have n1_ := Aside0.mk (Kd.R_below (by (with_reducible repeat (first | apply Kd.R_alloc | apply Kd.R_drewN | apply Kd.R_drew)); exact HO270.out) hb); have n2_ := Aside0.mk (Kd.S_below (by (with_reducible repeat (first | apply Kd.S_alloc | apply Kd.S_drewN | apply Kd.S_drew)); exact HO277.out) hb); have n3_ := Aside0.mk (blk_below (g := gb259) (o := .cells #[.int .i64 a0_0, .slice A0_1 l0_1.length c0_1] 24 (0, 0)) (by (with_reducible repeat (first | refine blk_drewN ?_ _ | refine blk_drew ?_ | refine blk_alloc ?_ _)); exact BK259.out) hb); have n4_ := Aside0.mk (blk_below (g := gb260) (o := .cells #[.slice A1_0 l1_0.length c1_0, .int .i64 a1_1] 33 (0, 0)) (by (with_reducible repeat (first | refine blk_drewN ?_ _ | refine blk_drew ?_ | refine blk_alloc ?_ _)); exact BK260.out) hb); have n5_ := Aside0.mk (blk_below (g := gb272) (o := .cells #[.int .i64 t264, .slice Ao32 t265.length co32] 24 (0, 0)) (by (with_reducible repeat (first | refine blk_drewN ?_ _ | refine blk_drew ?_ | refine blk_alloc ?_ _)); exact BK272.out) hb); have n6_ := Aside0.mk (blk_below (g := gb273) (o := .cells #[.slice Ao34 t268.length co34, .int .i64 t271] 33 (0, 0)) (by (with_reducible repeat (first | refine blk_drewN ?_ _ | refine blk_drew ?_ | refine blk_alloc ?_ _)); exact BK273.out) hb); have n7_ := Aside0.mk (below_step (by repeat (first | (with_reducible first | exact HB.out | apply below_alloc | apply pw_below_drewN | apply below_drew1 | refine below_set ?_ GE259.out | refine below_set ?_ GE260.out | refine below_set ?_ GE272.out | refine below_set ?_ GE273.out) | exact HB.out)) hb); have n8_ := Aside0.mk (hbox); have n9_ := Aside0.mk ((by rw [hg]; exact (below_size (by repeat (first | (with_reducible first | exact HB.out | apply below_alloc | apply pw_below_drewN | apply below_drew1 | refine below_set ?_ GE259.out | refine below_set ?_ GE260.out | refine below_set ?_ GE272.out | refine below_set ?_ GE273.out) | exact HB.out))) : w.heap.size ≤ gb279)); have n10_ := Aside0.mk ((by rw [hg]; exact (below_size (by repeat (first | (with_reducible first | exact HB.out | apply below_alloc | apply pw_below_drewN | apply below_drew1 | refine below_set ?_ GE259.out | refine below_set ?_ GE260.out | refine below_set ?_ GE272.out | refine below_set ?_ GE273.out) | exact HB.out))) : w.heap.size ≤ gb279)); have n11_ := Aside0.mk ((by rw [hg]; exact Nat.ne_of_lt (blk_lt (g := gb259) (o := .cells #[.int .i64 a0_0, .slice A0_1 l0_1.length c0_1] 24 (0, 0)) (by (with_reducible repeat (first | refine blk_drewN ?_ _ | refine blk_drew ?_ | refine blk_alloc ?_ _)); exact BK259.out)) : gb259 ≠ gb279)); have n12_ := Aside0.mk ((by rw [hg]; exact Nat.ne_of_gt (blk_lt (g := gb259) (o := .cells #[.int .i64 a0_0, .slice A0_1 l0_1.length c0_1] 24 (0, 0)) (by (with_reducible repeat (first | refine blk_drewN ?_ _ | refine blk_drew ?_ | refine blk_alloc ?_ _)); exact BK259.out)) : gb279 ≠ gb259)); have n13_ := Aside0.mk ((by rw [hg]; exact Nat.ne_of_lt (blk_lt (g := gb260) (o := .cells #[.slice A1_0 l1_0.length c1_0, .int .i64 a1_1] 33 (0, 0)) (by (with_reducible repeat (first | refine blk_drewN ?_ _ | refine blk_drew ?_ | refine blk_alloc ?_ _)); exact BK260.out)) : gb260 ≠ gb279)); have n14_ := Aside0.mk ((by rw [hg]; exact Nat.ne_of_gt (blk_lt (g := gb260) (o := .cells #[.slice A1_0 l1_0.length c1_0, .int .i64 a1_1] 33 (0, 0)) (by (with_reducible repeat (first | refine blk_drewN ?_ _ | refine blk_drew ?_ | refine blk_alloc ?_ _)); exact BK260.out)) : gb279 ≠ gb260)); have n15_ := Aside0.mk ((by rw [hg]; exact Nat.ne_of_lt (blk_lt (g := gb272) (o := .cells #[.int .i64 t264, .slice Ao32 t265.length co32] 24 (0, 0)) (by (with_reducible repeat (first | refine blk_drewN ?_ _ | refine blk_drew ?_ | refine blk_alloc ?_ _)); exact BK272.out)) : gb272 ≠ gb279)); have n16_ := Aside0.mk ((by rw [hg]; exact Nat.ne_of_gt (blk_lt (g := gb272) (o := .cells #[.int .i64 t264, .slice Ao32 t265.length co32] 24 (0, 0)) (by (with_reducible repeat (first | refine blk_drewN ?_ _ | refine blk_drew ?_ | refine blk_alloc ?_ _)); exact BK272.out)) : gb279 ≠ gb272)); have n17_ := Aside0.mk ((by rw [hg]; exact Nat.ne_of_lt (blk_lt (g := gb273) (o := .cells #[.slice Ao34 t268.length co34, .int .i64 t271] 33 (0, 0)) (by (with_reducible repeat (first | refine blk_drewN ?_ _ | refine blk_drew ?_ | refine blk_alloc ?_ _)); exact BK273.out)) : gb273 ≠ gb279)); have n18_ := Aside0.mk ((by rw [hg]; exact Nat.ne_of_gt (blk_lt (g := gb273) (o := .cells #[.slice Ao34 t268.length co34, .int .i64 t271] 33 (0, 0)) (by (with_reducible repeat (first | refine blk_drewN ?_ _ | refine blk_drew ?_ | refine blk_alloc ?_ _)); exact BK273.out)) : gb279 ≠ gb273)); clear HO267; clear HO270; clear HO277; clear BK259; clear BK260; clear BK272; clear BK273; clear HB; have HO267 := n0_; have HO270 := n1_; have HO277 := n2_; have BK259 := n3_; have BK260 := n4_; have BK272 := n5_; have BK273 := n6_; have HB := n7_; have BK279 := n8_; have GW279 := n9_; have GE279 := n10_; have NB259_279 := n11_; have NB279_259 := n12_; have NB260_279 := n13_; have NB279_260 := n14_; have NB272_279 := n15_; have NB279_272 := n16_; have NB273_279 := n17_; have NB279_273 := n18_; clear n0_ n1_ n2_ n3_ n4_ n5_ n6_ n7_ n8_ n9_ n10_ n11_ n12_ n13_ n14_ n15_ n16_ n17_ n18_; clear hb hbox hg; have hnb46 := NB279_259.out; have hnc46 := NB259_279.out; have hnb47 := NB279_260.out; have hnc47 := NB260_279.out; have hnb48 := NB279_272.out; have hnc48 := NB272_279.out; have hnb49 := NB279_273.out; have hnc49 := NB273_279.out; have hcz50_0 : w45.cell? ⟨gb279, 0, none⟩ = some (.int .i64 0) := (blk_cell BK279.out 0).trans rfl; have hcz50_1 : w45.cell? ⟨gb279, 1, none⟩ = some (.slice none 0 0) := (blk_cell BK279.out 1).trans rfl; have hfz50_0 := blk_frozen BK279.out 0; have hfz50_1 := blk_frozen BK279.out 1; obtain ⟨Ao51, co51, eo51⟩ := Kd.S_slice HO277.out; subst eo51; have hnb52 := NB259_260.out; have hnc52 := NB260_259.out; have hcz53_0 : w45.cell? ⟨gb259, 0, none⟩ = some (.int .i64 a0_0) := (blk_cell BK259.out 0).trans rfl; have hcz53_1 : w45.cell? ⟨gb259, 1, none⟩ = some (.slice A0_1 l0_1.length c0_1) := (blk_cell BK259.out 1).trans rfl; have hfz53_0 := blk_frozen BK259.out 0; have hfz53_1 := blk_frozen BK259.out 1; have hcz54_0 : w45.cell? ⟨gb260, 0, none⟩ = some (.slice A1_0 l1_0.length c1_0) := (blk_cell BK260.out 0).trans rfl; have hcz54_1 : w45.cell? ⟨gb260, 1, none⟩ = some (.int .i64 a1_1) := (blk_cell BK260.out 1).trans rfl; have hfz54_0 := blk_frozen BK260.out 0; have hfz54_1 := blk_frozen BK260.out 1) | ((with_reducible refine gate_callee (f := 42) rfl ?_); refine goesL_ (some 33) rfl rfl Tryd.func42 (by kernel_rfl) rfl #[.agg #[.int .i64 a0_0, .slice A0_1 l0_1.length c0_1], .agg #[.slice A1_0 l1_0.length c1_0, .int .i64 a1_1]] rfl (by (try simp only [List.map_toArray, List.map_cons, List.map_nil]); first | done | rfl | (simp only [List.length_drop, List.length_take]; rfl)) ?_; (with_reducible refine (familycheckref01_Append.calls kj2 a0_0 _ _ l0_1 _ _ l1_0 a1_1 t280 t281 t284 _ ?side1 ?side2 ?side3 ?side4 A23.out).mono ?_); (case side1 => exact Kd.C_below HR0_1.out (by repeat (first | (with_reducible first | exact HB.out | apply below_alloc | apply pw_below_drewN | apply below_drew1 | refine below_set ?_ GE259.out | refine below_set ?_ GE260.out | refine below_set ?_ GE272.out | refine below_set ?_ GE273.out | refine below_set ?_ GE279.out) | exact HB.out))); (case side2 => exact HC0_1.out); (case side3 => exact Kd.C_below HR1_0.out (by repeat (first | (with_reducible first | exact HB.out | apply below_alloc | apply pw_below_drewN | apply below_drew1 | refine below_set ?_ GE259.out | refine below_set ?_ GE260.out | refine below_set ?_ GE272.out | refine below_set ?_ GE273.out | refine below_set ?_ GE279.out) | exact HB.out))); (case side4 => exact HC1_0.out); rintro e w55 ⟨v282, rfl, ho0, hb⟩; refine ⟨_, rfl, ?_⟩; have A1_ := Aside0.mk (below_step (by repeat (first | (with_reducible first | exact HXA.out | apply below_alloc | apply pw_below_drewN | apply below_drew1 | refine below_set ?_ GA279.out) | exact HXA.out)) hb); have A3_ := Aside0.mk (Kd.S_below (by (with_reducible repeat (first | apply Kd.S_alloc | apply Kd.S_drewN | apply Kd.S_drew)); exact (Kd.S_mono (Kd.S_far (p := ⟨gb279, 1, none⟩) (Kd.S_far (p := ⟨gb279, 0, none⟩) (Kd.S_types HXT.out BK279.out (by decide)) (fun _ hk => hk.2) (.int .i64 t274)) (fun _ hk => hk.2) (.slice Ao51 t275.length co51)) (fun _ _ => trivial))) hb); have HXU : Aside0 (∀ k_, Value.ownBlock v282 = some k_ → wA.heap.size ≤ k_) := ⟨fun k_ hk_ => Nat.le_trans (below_size (by repeat (first | (with_reducible first | exact HXA.out | apply below_alloc | apply pw_below_drewN | apply below_drew1 | refine below_set ?_ GA279.out) | exact HXA.out))) (Kd.S_base ho0 k_ hk_)⟩; clear HXA HXT; have HXA := A1_; have HXT := A3_; clear A1_ A3_; have n0_ := Aside0.mk (Kd.S_elder' (by (with_reducible repeat (first | apply Kd.S_alloc | apply Kd.S_drewN | apply Kd.S_drew)); exact (Kd.S_mono (Kd.S_far (p := ⟨gb279, 1, none⟩) (Kd.S_far (p := ⟨gb279, 0, none⟩) (Kd.S_types HO267.out BK279.out (by decide)) (fun _ hk => hk.2) (.int .i64 t274)) (fun _ hk => hk.2) (.slice Ao51 t275.length co51)) (fun _ h_ => h_.1))) (Kd.S_base ho0) hb); have n1_ := Aside0.mk (Kd.R_below (by (with_reducible repeat (first | apply Kd.R_alloc | apply Kd.R_drewN | apply Kd.R_drew)); exact (Kd.R_mono (Kd.R_far (p := ⟨gb279, 1, none⟩) (Kd.R_far (p := ⟨gb279, 0, none⟩) (Kd.R_types HO270.out BK279.out (by decide)) (fun _ hk => hk.2) (.int .i64 t274)) (fun _ hk => hk.2) (.slice Ao51 t275.length co51)) (fun _ h_ => h_.1))) hb); have n2_ := Aside0.mk (Kd.S_elder' (by (with_reducible repeat (first | apply Kd.S_alloc | apply Kd.S_drewN | apply Kd.S_drew)); exact (Kd.S_mono (Kd.S_far (p := ⟨gb279, 1, none⟩) (Kd.S_far (p := ⟨gb279, 0, none⟩) (Kd.S_types HO277.out BK279.out (by decide)) (fun _ hk => hk.2) (.int .i64 t274)) (fun _ hk => hk.2) (.slice Ao51 t275.length co51)) (fun _ h_ => h_.1))) (Kd.S_base ho0) hb); have n3_ := Aside0.mk (Kd.S_lower (Kd.S_newB (Kd.S_newB (Kd.S_new' (Kd.S_new' (Kd.S_new' ho0 (Kd.S_lt (by (with_reducible repeat (first | apply Kd.S_alloc | apply Kd.S_drewN | apply Kd.S_drew)); exact (Kd.S_mono (Kd.S_far (p := ⟨gb279, 1, none⟩) (Kd.S_far (p := ⟨gb279, 0, none⟩) (Kd.S_types HO267.out BK279.out (by decide)) (fun _ hk => hk.2) (.int .i64 t274)) (fun _ hk => hk.2) (.slice Ao51 t275.length co51)) (fun _ h_ => h_.1))))) (Kd.R_lt (by (with_reducible repeat (first | apply Kd.R_alloc | apply Kd.R_drewN | apply Kd.R_drew)); exact (Kd.R_mono (Kd.R_far (p := ⟨gb279, 1, none⟩) (Kd.R_far (p := ⟨gb279, 0, none⟩) (Kd.R_types HO270.out BK279.out (by decide)) (fun _ hk => hk.2) (.int .i64 t274)) (fun _ hk => hk.2) (.slice Ao51 t275.length co51)) (fun _ h_ => h_.1))))) (Kd.S_lt (by (with_reducible repeat (first | apply Kd.S_alloc | apply Kd.S_drewN | apply Kd.S_drew)); exact (Kd.S_mono (Kd.S_far (p := ⟨gb279, 1, none⟩) (Kd.S_far (p := ⟨gb279, 0, none⟩) (Kd.S_types HO277.out BK279.out (by decide)) (fun _ hk => hk.2) (.int .i64 t274)) (fun _ hk => hk.2) (.slice Ao51 t275.length co51)) (fun _ h_ => h_.1))))) (g := gb260) (o := .cells #[.slice A1_0 l1_0.length c1_0, .int .i64 a1_1] 33 (0, 0)) (by (with_reducible repeat (first | refine blk_drewN ?_ _ | refine blk_drew ?_ | refine blk_alloc ?_ _)); refine blk_far ?_ NB260_279.out _; (with_reducible repeat (first | refine blk_drewN ?_ _ | refine blk_drew ?_ | refine blk_alloc ?_ _)); refine blk_far ?_ NB260_279.out _; (with_reducible repeat (first | refine blk_drewN ?_ _ | refine blk_drew ?_ | refine blk_alloc ?_ _)); exact BK260.out)) (g := gb273) (o := .cells #[.slice Ao34 t268.length co34, .int .i64 t271] 33 (0, 0)) (by (with_reducible repeat (first | refine blk_drewN ?_ _ | refine blk_drew ?_ | refine blk_alloc ?_ _)); refine blk_far ?_ NB273_279.out _; (with_reducible repeat (first | refine blk_drewN ?_ _ | refine blk_drew ?_ | refine blk_alloc ?_ _)); refine blk_far ?_ NB273_279.out _; (with_reducible repeat (first | refine blk_drewN ?_ _ | refine blk_drew ?_ | refine blk_alloc ?_ _)); exact BK273.out)) (below_size (by repeat (first | (with_reducible first | exact HB.out | apply below_alloc | apply pw_below_drewN | apply below_drew1 | refine below_set ?_ GE259.out | refine below_set ?_ GE260.out | refine below_set ?_ GE272.out | refine below_set ?_ GE273.out | refine below_set ?_ GE279.out) | exact HB.out)))); have n4_ := Aside0.mk (blk_below (g := gb259) (o := .cells #[.int .i64 a0_0, .slice A0_1 l0_1.length c0_1] 24 (0, 0)) (by (with_reducible repeat (first | refine blk_drewN ?_ _ | refine blk_drew ?_ | refine blk_alloc ?_ _)); refine blk_far ?_ NB259_279.out _; (with_reducible repeat (first | refine blk_drewN ?_ _ | refine blk_drew ?_ | refine blk_alloc ?_ _)); refine blk_far ?_ NB259_279.out _; (with_reducible repeat (first | refine blk_drewN ?_ _ | refine blk_drew ?_ | refine blk_alloc ?_ _)); exact BK259.out) hb); have n5_ := Aside0.mk (blk_below (g := gb260) (o := .cells #[.slice A1_0 l1_0.length c1_0, .int .i64 a1_1] 33 (0, 0)) (by (with_reducible repeat (first | refine blk_drewN ?_ _ | refine blk_drew ?_ | refine blk_alloc ?_ _)); refine blk_far ?_ NB260_279.out _; (with_reducible repeat (first | refine blk_drewN ?_ _ | refine blk_drew ?_ | refine blk_alloc ?_ _)); refine blk_far ?_ NB260_279.out _; (with_reducible repeat (first | refine blk_drewN ?_ _ | refine blk_drew ?_ | refine blk_alloc ?_ _)); exact BK260.out) hb); have n6_ := Aside0.mk (blk_below (g := gb272) (o := .cells #[.int .i64 t264, .slice Ao32 t265.length co32] 24 (0, 0)) (by (with_reducible repeat (first | refine blk_drewN ?_ _ | refine blk_drew ?_ | refine blk_alloc ?_ _)); refine blk_far ?_ NB272_279.out _; (with_reducible repeat (first | refine blk_drewN ?_ _ | refine blk_drew ?_ | refine blk_alloc ?_ _)); refine blk_far ?_ NB272_279.out _; (with_reducible repeat (first | refine blk_drewN ?_ _ | refine blk_drew ?_ | refine blk_alloc ?_ _)); exact BK272.out) hb); have n7_ := Aside0.mk (blk_below (g := gb273) (o := .cells #[.slice Ao34 t268.length co34, .int .i64 t271] 33 (0, 0)) (by (with_reducible repeat (first | refine blk_drewN ?_ _ | refine blk_drew ?_ | refine blk_alloc ?_ _)); refine blk_far ?_ NB273_279.out _; (with_reducible repeat (first | refine blk_drewN ?_ _ | refine blk_drew ?_ | refine blk_alloc ?_ _)); refine blk_far ?_ NB273_279.out _; (with_reducible repeat (first | refine blk_drewN ?_ _ | refine blk_drew ?_ | refine blk_alloc ?_ _)); exact BK273.out) hb); have n8_ := Aside0.mk (blk_below (g := gb279) (o := .cells #[.int .i64 t274, .slice Ao51 t275.length co51] 24 (0, 0)) (by (with_reducible repeat (first | refine blk_drewN ?_ _ | refine blk_drew ?_ | refine blk_alloc ?_ _)); refine blk_put (cs := #[.int .i64 t274, .slice none 0 0]) ?_ 1 _ rfl; (with_reducible repeat (first | refine blk_drewN ?_ _ | refine blk_drew ?_ | refine blk_alloc ?_ _)); refine blk_put (cs := #[.int .i64 0, .slice none 0 0]) ?_ 0 _ rfl; (with_reducible repeat (first | refine blk_drewN ?_ _ | refine blk_drew ?_ | refine blk_alloc ?_ _)); exact BK279.out) hb); have n9_ := Aside0.mk (below_step (by repeat (first | (with_reducible first | exact HB.out | apply below_alloc | apply pw_below_drewN | apply below_drew1 | refine below_set ?_ GE259.out | refine below_set ?_ GE260.out | refine below_set ?_ GE272.out | refine below_set ?_ GE273.out | refine below_set ?_ GE279.out) | exact HB.out)) hb); clear HO267; clear HO270; clear HO277; clear BK259; clear BK260; clear BK272; clear BK273; clear BK279; clear HB; have HO267 := n0_; have HO270 := n1_; have HO277 := n2_; have HO283 := n3_; have BK259 := n4_; have BK260 := n5_; have BK272 := n6_; have BK273 := n7_; have BK279 := n8_; have HB := n9_; clear n0_ n1_ n2_ n3_ n4_ n5_ n6_ n7_ n8_ n9_; (try clear hb); (try clear hb2); (try clear hk); (try clear hi); (try clear ho0)) | ((with_reducible refine gate_dst (N := 9) rfl ?_); refine box_event ?hg (N := 9) ?hd (cs := #[.int .i64 0, .slice none 0 0]) (t := 24) ?hr ?_; (case hd => rfl); (case hg => rfl); (case hr => first | (go_simp; done) | (go_simp; rfl)); intro gb285 hg w56 hbox hb; have A1_ := Aside0.mk (below_step (by repeat (first | (with_reducible first | exact HXA.out | apply below_alloc | apply pw_below_drewN | apply below_drew1 | refine below_set ?_ GA279.out) | exact HXA.out)) hb); have A3_ := Aside0.mk (Kd.S_below (by (with_reducible repeat (first | apply Kd.S_alloc | apply Kd.S_drewN | apply Kd.S_drew)); exact HXT.out) hb); have A2_ : Aside0 (wA.heap.size ≤ gb285) := ⟨by rw [hg]; exact (below_size (by repeat (first | (with_reducible first | exact HXA.out | apply below_alloc | apply pw_below_drewN | apply below_drew1 | refine below_set ?_ GA279.out) | exact HXA.out)))⟩; clear HXA HXT; have HXA := A1_; have HXT := A3_; have GA285 := A2_; clear A1_ A2_ A3_; have n0_ := Aside0.mk (Kd.S_below (by (with_reducible repeat (first | apply Kd.S_alloc | apply Kd.S_drewN | apply Kd.S_drew)); exact HO267.out) hb); have n1_ := Aside0.mk (Kd.R_below (by (with_reducible repeat (first | apply Kd.R_alloc | apply Kd.R_drewN | apply Kd.R_drew)); exact HO270.out) hb); have n2_ := Aside0.mk (Kd.S_below (by (with_reducible repeat (first | apply Kd.S_alloc | apply Kd.S_drewN | apply Kd.S_drew)); exact HO277.out) hb); have n3_ := Aside0.mk (Kd.S_below (by (with_reducible repeat (first | apply Kd.S_alloc | apply Kd.S_drewN | apply Kd.S_drew)); exact HO283.out) hb); have n4_ := Aside0.mk (blk_below (g := gb259) (o := .cells #[.int .i64 a0_0, .slice A0_1 l0_1.length c0_1] 24 (0, 0)) (by (with_reducible repeat (first | refine blk_drewN ?_ _ | refine blk_drew ?_ | refine blk_alloc ?_ _)); exact BK259.out) hb); have n5_ := Aside0.mk (blk_below (g := gb260) (o := .cells #[.slice A1_0 l1_0.length c1_0, .int .i64 a1_1] 33 (0, 0)) (by (with_reducible repeat (first | refine blk_drewN ?_ _ | refine blk_drew ?_ | refine blk_alloc ?_ _)); exact BK260.out) hb); have n6_ := Aside0.mk (blk_below (g := gb272) (o := .cells #[.int .i64 t264, .slice Ao32 t265.length co32] 24 (0, 0)) (by (with_reducible repeat (first | refine blk_drewN ?_ _ | refine blk_drew ?_ | refine blk_alloc ?_ _)); exact BK272.out) hb); have n7_ := Aside0.mk (blk_below (g := gb273) (o := .cells #[.slice Ao34 t268.length co34, .int .i64 t271] 33 (0, 0)) (by (with_reducible repeat (first | refine blk_drewN ?_ _ | refine blk_drew ?_ | refine blk_alloc ?_ _)); exact BK273.out) hb); have n8_ := Aside0.mk (blk_below (g := gb279) (o := .cells #[.int .i64 t274, .slice Ao51 t275.length co51] 24 (0, 0)) (by (with_reducible repeat (first | refine blk_drewN ?_ _ | refine blk_drew ?_ | refine blk_alloc ?_ _)); exact BK279.out) hb); have n9_ := Aside0.mk (below_step (by repeat (first | (with_reducible first | exact HB.out | apply below_alloc | apply pw_below_drewN | apply below_drew1 | refine below_set ?_ GE259.out | refine below_set ?_ GE260.out | refine below_set ?_ GE272.out | refine below_set ?_ GE273.out | refine below_set ?_ GE279.out) | exact HB.out)) hb); have n10_ := Aside0.mk (hbox); have n11_ := Aside0.mk ((by rw [hg]; exact (below_size (by repeat (first | (with_reducible first | exact HB.out | apply below_alloc | apply pw_below_drewN | apply below_drew1 | refine below_set ?_ GE259.out | refine below_set ?_ GE260.out | refine below_set ?_ GE272.out | refine below_set ?_ GE273.out | refine below_set ?_ GE279.out) | exact HB.out))) : w.heap.size ≤ gb285)); have n12_ := Aside0.mk ((by rw [hg]; exact (below_size (by repeat (first | (with_reducible first | exact HB.out | apply below_alloc | apply pw_below_drewN | apply below_drew1 | refine below_set ?_ GE259.out | refine below_set ?_ GE260.out | refine below_set ?_ GE272.out | refine below_set ?_ GE273.out | refine below_set ?_ GE279.out) | exact HB.out))) : w.heap.size ≤ gb285)); have n13_ := Aside0.mk ((by rw [hg]; exact Nat.ne_of_lt (blk_lt (g := gb259) (o := .cells #[.int .i64 a0_0, .slice A0_1 l0_1.length c0_1] 24 (0, 0)) (by (with_reducible repeat (first | refine blk_drewN ?_ _ | refine blk_drew ?_ | refine blk_alloc ?_ _)); exact BK259.out)) : gb259 ≠ gb285)); have n14_ := Aside0.mk ((by rw [hg]; exact Nat.ne_of_gt (blk_lt (g := gb259) (o := .cells #[.int .i64 a0_0, .slice A0_1 l0_1.length c0_1] 24 (0, 0)) (by (with_reducible repeat (first | refine blk_drewN ?_ _ | refine blk_drew ?_ | refine blk_alloc ?_ _)); exact BK259.out)) : gb285 ≠ gb259)); have n15_ := Aside0.mk ((by rw [hg]; exact Nat.ne_of_lt (blk_lt (g := gb260) (o := .cells #[.slice A1_0 l1_0.length c1_0, .int .i64 a1_1] 33 (0, 0)) (by (with_reducible repeat (first | refine blk_drewN ?_ _ | refine blk_drew ?_ | refine blk_alloc ?_ _)); exact BK260.out)) : gb260 ≠ gb285)); have n16_ := Aside0.mk ((by rw [hg]; exact Nat.ne_of_gt (blk_lt (g := gb260) (o := .cells #[.slice A1_0 l1_0.length c1_0, .int .i64 a1_1] 33 (0, 0)) (by (with_reducible repeat (first | refine blk_drewN ?_ _ | refine blk_drew ?_ | refine blk_alloc ?_ _)); exact BK260.out)) : gb285 ≠ gb260)); have n17_ := Aside0.mk ((by rw [hg]; exact Nat.ne_of_lt (blk_lt (g := gb272) (o := .cells #[.int .i64 t264, .slice Ao32 t265.length co32] 24 (0, 0)) (by (with_reducible repeat (first | refine blk_drewN ?_ _ | refine blk_drew ?_ | refine blk_alloc ?_ _)); exact BK272.out)) : gb272 ≠ gb285)); have n18_ := Aside0.mk ((by rw [hg]; exact Nat.ne_of_gt (blk_lt (g := gb272) (o := .cells #[.int .i64 t264, .slice Ao32 t265.length co32] 24 (0, 0)) (by (with_reducible repeat (first | refine blk_drewN ?_ _ | refine blk_drew ?_ | refine blk_alloc ?_ _)); exact BK272.out)) : gb285 ≠ gb272)); have n19_ := Aside0.mk ((by rw [hg]; exact Nat.ne_of_lt (blk_lt (g := gb273) (o := .cells #[.slice Ao34 t268.length co34, .int .i64 t271] 33 (0, 0)) (by (with_reducible repeat (first | refine blk_drewN ?_ _ | refine blk_drew ?_ | refine blk_alloc ?_ _)); exact BK273.out)) : gb273 ≠ gb285)); have n20_ := Aside0.mk ((by rw [hg]; exact Nat.ne_of_gt (blk_lt (g := gb273) (o := .cells #[.slice Ao34 t268.length co34, .int .i64 t271] 33 (0, 0)) (by (with_reducible repeat (first | refine blk_drewN ?_ _ | refine blk_drew ?_ | refine blk_alloc ?_ _)); exact BK273.out)) : gb285 ≠ gb273)); have n21_ := Aside0.mk ((by rw [hg]; exact Nat.ne_of_lt (blk_lt (g := gb279) (o := .cells #[.int .i64 t274, .slice Ao51 t275.length co51] 24 (0, 0)) (by (with_reducible repeat (first | refine blk_drewN ?_ _ | refine blk_drew ?_ | refine blk_alloc ?_ _)); exact BK279.out)) : gb279 ≠ gb285)); have n22_ := Aside0.mk ((by rw [hg]; exact Nat.ne_of_gt (blk_lt (g := gb279) (o := .cells #[.int .i64 t274, .slice Ao51 t275.length co51] 24 (0, 0)) (by (with_reducible repeat (first | refine blk_drewN ?_ _ | refine blk_drew ?_ | refine blk_alloc ?_ _)); exact BK279.out)) : gb285 ≠ gb279)); clear HO267; clear HO270; clear HO277; clear HO283; clear BK259; clear BK260; clear BK272; clear BK273; clear BK279; clear HB; have HO267 := n0_; have HO270 := n1_; have HO277 := n2_; have HO283 := n3_; have BK259 := n4_; have BK260 := n5_; have BK272 := n6_; have BK273 := n7_; have BK279 := n8_; have HB := n9_; have BK285 := n10_; have GW285 := n11_; have GE285 := n12_; have NB259_285 := n13_; have NB285_259 := n14_; have NB260_285 := n15_; have NB285_260 := n16_; have NB272_285 := n17_; have NB285_272 := n18_; have NB273_285 := n19_; have NB285_273 := n20_; have NB279_285 := n21_; have NB285_279 := n22_; clear n0_ n1_ n2_ n3_ n4_ n5_ n6_ n7_ n8_ n9_ n10_ n11_ n12_ n13_ n14_ n15_ n16_ n17_ n18_ n19_ n20_ n21_ n22_; clear hb hbox hg; have hnb57 := NB285_259.out; have hnc57 := NB259_285.out; have hnb58 := NB285_260.out; have hnc58 := NB260_285.out; have hnb59 := NB285_272.out; have hnc59 := NB272_285.out; have hnb60 := NB285_273.out; have hnc60 := NB273_285.out; have hnb61 := NB285_279.out; have hnc61 := NB279_285.out; have hcz62_0 : w56.cell? ⟨gb285, 0, none⟩ = some (.int .i64 0) := (blk_cell BK285.out 0).trans rfl; have hcz62_1 : w56.cell? ⟨gb285, 1, none⟩ = some (.slice none 0 0) := (blk_cell BK285.out 1).trans rfl; have hfz62_0 := blk_frozen BK285.out 0; have hfz62_1 := blk_frozen BK285.out 1; obtain ⟨Ao63, co63, eo63⟩ := Kd.S_slice HO283.out; subst eo63))
        (try simp only [Act.put, List.setIfInBounds_toArray, List.set_cons_zero, List.set_cons_succ])
        go_cut [11] (fun v11 wc => ∃ (kq : Nat) (x11_23 : Bool), v11 = .bool x11_23 ∧ Aside0 (familychecklaw01_LinearAppends.j1 kq x11_23 a0_0 l0_1 l1_0 a1_1 t264 t265 t268 t271 t274 t275 = some r) ∧ Aside0 (kq ≤ kj2) ∧ Aside0 (Kd.S k33 33 wc w.heap.size (fun k_ => some k_ ≠ ((.slice Ao34 t268.length co34) : Value).ownBlock ∧ some k_ ≠ ((.slice Ao51 t275.length co51) : Value).ownBlock ∧ some k_ ≠ ((.slice Ao63 t281.length co63) : Value).ownBlock ∧ k_ ≠ gb260 ∧ k_ ≠ gb273) (.slice Ao32 t265.length co32) t265) ∧ Aside0 (Kd.R (Kd.int .i64) 3 wc w.heap.size (fun _ => True) (.slice Ao34 t268.length co34) t268) ∧ Aside0 (Kd.S k33 33 wc w.heap.size (fun k_ => some k_ ≠ ((.slice Ao32 t265.length co32) : Value).ownBlock ∧ some k_ ≠ ((.slice Ao34 t268.length co34) : Value).ownBlock ∧ some k_ ≠ ((.slice Ao63 t281.length co63) : Value).ownBlock ∧ k_ ≠ gb260 ∧ k_ ≠ gb273) (.slice Ao51 t275.length co51) t275) ∧ Aside0 (Kd.S k33 33 wc w.heap.size (fun k_ => some k_ ≠ ((.slice Ao32 t265.length co32) : Value).ownBlock ∧ some k_ ≠ ((.slice Ao34 t268.length co34) : Value).ownBlock ∧ some k_ ≠ ((.slice Ao51 t275.length co51) : Value).ownBlock ∧ k_ ≠ gb260 ∧ k_ ≠ gb273) (.slice Ao63 t281.length co63) t281) ∧ Aside0 (wc.heap[gb259]? = some (.cells #[.int .i64 a0_0, (.slice A0_1 l0_1.length c0_1)] 24 (0, 0))) ∧ Aside0 (wc.heap[gb260]? = some (.cells #[(.slice A1_0 l1_0.length c1_0), .int .i64 a1_1] 33 (0, 0))) ∧ Aside0 (wc.heap[gb272]? = some (.cells #[.int .i64 t264, (.slice Ao32 t265.length co32)] 24 (0, 0))) ∧ Aside0 (wc.heap[gb273]? = some (.cells #[(.slice Ao34 t268.length co34), .int .i64 t271] 33 (0, 0))) ∧ Aside0 (wc.heap[gb279]? = some (.cells #[.int .i64 t274, (.slice Ao51 t275.length co51)] 24 (0, 0))) ∧ Aside0 (wc.heap[gb285]? = some (.cells #[.int .i64 t280, (.slice Ao63 t281.length co63)] 24 (0, 0))) ∧ Aside0 (Below w.heap.size w wc) ∧ Aside0 (Kd.S k33 33 wc wA.heap.size (fun _ => True) (.slice Ao51 t275.length co51) t275) ∧ Aside0 (Below wA.heap.size wA wc))
        case first =>
          have H := HC24.out
          clear HC24
          by_cases c64 : t278 = t284
          · rw [if_pos c64] at H
            have c64b0 : (t278 == t284) = true := beq_iff_eq.mpr c64
            have c64b1 : (t278 != t284) = false := bne_eq_false_iff_eq.mpr c64
            clear c64
            (first | rw [c64b0] | (simp only [i64_w, i32_w]; rw [c64b0]) | skip)
            replace H := Option.bind_eq_some_iff.mp H
            obtain ⟨t286, A650, H⟩ := H
            replace H : (familychecklaw01_LinearAppends.j1 kj2 t286 a0_0 l0_1 l1_0 a1_1 t264 t265 t268 t271 t274 t275) = some r := H
            have A65 := Aside0.mk A650
            clear A650
            have H' := Aside0.mk H
            clear H
            have hnb66 := NB279_259.out
            have hnc66 := NB259_279.out
            have hnb67 := NB279_260.out
            have hnc67 := NB260_279.out
            have hnb68 := NB279_272.out
            have hnc68 := NB272_279.out
            have hnb69 := NB279_273.out
            have hnc69 := NB273_279.out
            have hnb70 := NB279_285.out
            have hnc70 := NB285_279.out
            have hcz71_0 : w56.cell? ⟨gb279, 0, none⟩ = some (.int .i64 t274) := (blk_cell BK279.out 0).trans rfl
            have hcz71_1 : w56.cell? ⟨gb279, 1, none⟩ = some (.slice Ao51 t275.length co51) := (blk_cell BK279.out 1).trans rfl
            have hfz71_0 := blk_frozen BK279.out 0
            have hfz71_1 := blk_frozen BK279.out 1
            have hnb72 := NB285_259.out
            have hnc72 := NB259_285.out
            have hnb73 := NB285_260.out
            have hnc73 := NB260_285.out
            have hnb74 := NB285_272.out
            have hnc74 := NB272_285.out
            have hnb75 := NB285_273.out
            have hnc75 := NB273_285.out
            have hcz76_0 : w56.cell? ⟨gb285, 0, none⟩ = some (.int .i64 0) := (blk_cell BK285.out 0).trans rfl
            have hcz76_1 : w56.cell? ⟨gb285, 1, none⟩ = some (.slice none 0 0) := (blk_cell BK285.out 1).trans rfl
            have hfz76_0 := blk_frozen BK285.out 0
            have hfz76_1 := blk_frozen BK285.out 1
            go_wp2_with (first | (go_at_call 20; (with_reducible refine (familycheckref01_SameSystem.calls kj2 t274 _ _ t275 t280 _ _ t281 t286 _ ?side1 ?side2 ?side3 ?side4 A65.out).mono ?_); (case side1 => refine (Kd.S_reads' (e := 33) (base := w.heap.size) (ok := fun k_ => (((((True ∧ some k_ ≠ (.slice Ao32 t265.length co32 : Value).ownBlock) ∧ some k_ ≠ (.slice Ao34 t268.length co34 : Value).ownBlock) ∧ k_ ≠ gb260) ∧ k_ ≠ gb273) ∧ some k_ ≠ (.slice Ao63 t281.length co63 : Value).ownBlock)) (n := t275.length) (c := co51) ?_).2.2; exact (by (with_reducible repeat (first | apply Kd.S_alloc | apply Kd.S_drewN | apply Kd.S_drew)); exact (Kd.S_mono (Kd.S_far (p := ⟨gb285, 1, none⟩) (Kd.S_far (p := ⟨gb285, 0, none⟩) (Kd.S_types HO277.out BK285.out (by decide)) (fun _ hk => hk.2) (.int .i64 t280)) (fun _ hk => hk.2) (.slice Ao63 t281.length co63)) (fun _ h_ => h_.1)))); (case side2 => exact (Kd.S_reads' HO277.out).2.1); (case side3 => refine (Kd.S_reads' (e := 33) (base := w.heap.size) (ok := fun k_ => (((((True ∧ some k_ ≠ (.slice Ao32 t265.length co32 : Value).ownBlock) ∧ some k_ ≠ (.slice Ao34 t268.length co34 : Value).ownBlock) ∧ some k_ ≠ (.slice Ao51 t275.length co51 : Value).ownBlock) ∧ k_ ≠ gb260) ∧ k_ ≠ gb273)) (n := t281.length) (c := co63) ?_).2.2; exact (by (with_reducible repeat (first | apply Kd.S_alloc | apply Kd.S_drewN | apply Kd.S_drew)); exact (Kd.S_mono (Kd.S_far (p := ⟨gb285, 1, none⟩) (Kd.S_far (p := ⟨gb285, 0, none⟩) (Kd.S_types HO283.out BK285.out (by decide)) (fun _ hk => hk.2) (.int .i64 t280)) (fun _ hk => hk.2) (.slice Ao63 t281.length co63)) (fun _ h_ => h_.1)))); (case side4 => exact (Kd.S_reads' HO283.out).2.1); rintro e w77 ⟨rfl, hb⟩; have A1_ := Aside0.mk (below_step (by repeat (first | (with_reducible first | exact HXA.out | apply below_alloc | apply pw_below_drewN | apply below_drew1 | refine below_set ?_ GA279.out | refine below_set ?_ GA285.out) | exact HXA.out)) hb); have A3_ := Aside0.mk (Kd.S_below (by (with_reducible repeat (first | apply Kd.S_alloc | apply Kd.S_drewN | apply Kd.S_drew)); exact (Kd.S_mono (Kd.S_far (p := ⟨gb285, 1, none⟩) (Kd.S_far (p := ⟨gb285, 0, none⟩) (Kd.S_types HXT.out BK285.out (by decide)) (fun _ hk => hk.2) (.int .i64 t280)) (fun _ hk => hk.2) (.slice Ao63 t281.length co63)) (fun _ _ => trivial))) hb); clear HXA HXT; have HXA := A1_; have HXT := A3_; clear A1_ A3_; have n0_ := Aside0.mk (Kd.S_below (by (with_reducible repeat (first | apply Kd.S_alloc | apply Kd.S_drewN | apply Kd.S_drew)); exact (Kd.S_mono (Kd.S_far (p := ⟨gb285, 1, none⟩) (Kd.S_far (p := ⟨gb285, 0, none⟩) (Kd.S_types HO267.out BK285.out (by decide)) (fun _ hk => hk.2) (.int .i64 t280)) (fun _ hk => hk.2) (.slice Ao63 t281.length co63)) (fun _ h_ => h_.1))) hb); have n1_ := Aside0.mk (Kd.R_below (by (with_reducible repeat (first | apply Kd.R_alloc | apply Kd.R_drewN | apply Kd.R_drew)); exact (Kd.R_mono (Kd.R_far (p := ⟨gb285, 1, none⟩) (Kd.R_far (p := ⟨gb285, 0, none⟩) (Kd.R_types HO270.out BK285.out (by decide)) (fun _ hk => hk.2) (.int .i64 t280)) (fun _ hk => hk.2) (.slice Ao63 t281.length co63)) (fun _ h_ => h_.1))) hb); have n2_ := Aside0.mk (Kd.S_below (by (with_reducible repeat (first | apply Kd.S_alloc | apply Kd.S_drewN | apply Kd.S_drew)); exact (Kd.S_mono (Kd.S_far (p := ⟨gb285, 1, none⟩) (Kd.S_far (p := ⟨gb285, 0, none⟩) (Kd.S_types HO277.out BK285.out (by decide)) (fun _ hk => hk.2) (.int .i64 t280)) (fun _ hk => hk.2) (.slice Ao63 t281.length co63)) (fun _ h_ => h_.1))) hb); have n3_ := Aside0.mk (Kd.S_below (by (with_reducible repeat (first | apply Kd.S_alloc | apply Kd.S_drewN | apply Kd.S_drew)); exact (Kd.S_mono (Kd.S_far (p := ⟨gb285, 1, none⟩) (Kd.S_far (p := ⟨gb285, 0, none⟩) (Kd.S_types HO283.out BK285.out (by decide)) (fun _ hk => hk.2) (.int .i64 t280)) (fun _ hk => hk.2) (.slice Ao63 t281.length co63)) (fun _ h_ => h_.1))) hb); have n4_ := Aside0.mk (blk_below (g := gb259) (o := .cells #[.int .i64 a0_0, .slice A0_1 l0_1.length c0_1] 24 (0, 0)) (by (with_reducible repeat (first | refine blk_drewN ?_ _ | refine blk_drew ?_ | refine blk_alloc ?_ _)); refine blk_far ?_ NB259_285.out _; (with_reducible repeat (first | refine blk_drewN ?_ _ | refine blk_drew ?_ | refine blk_alloc ?_ _)); refine blk_far ?_ NB259_285.out _; (with_reducible repeat (first | refine blk_drewN ?_ _ | refine blk_drew ?_ | refine blk_alloc ?_ _)); exact BK259.out) hb); have n5_ := Aside0.mk (blk_below (g := gb260) (o := .cells #[.slice A1_0 l1_0.length c1_0, .int .i64 a1_1] 33 (0, 0)) (by (with_reducible repeat (first | refine blk_drewN ?_ _ | refine blk_drew ?_ | refine blk_alloc ?_ _)); refine blk_far ?_ NB260_285.out _; (with_reducible repeat (first | refine blk_drewN ?_ _ | refine blk_drew ?_ | refine blk_alloc ?_ _)); refine blk_far ?_ NB260_285.out _; (with_reducible repeat (first | refine blk_drewN ?_ _ | refine blk_drew ?_ | refine blk_alloc ?_ _)); exact BK260.out) hb); have n6_ := Aside0.mk (blk_below (g := gb272) (o := .cells #[.int .i64 t264, .slice Ao32 t265.length co32] 24 (0, 0)) (by (with_reducible repeat (first | refine blk_drewN ?_ _ | refine blk_drew ?_ | refine blk_alloc ?_ _)); refine blk_far ?_ NB272_285.out _; (with_reducible repeat (first | refine blk_drewN ?_ _ | refine blk_drew ?_ | refine blk_alloc ?_ _)); refine blk_far ?_ NB272_285.out _; (with_reducible repeat (first | refine blk_drewN ?_ _ | refine blk_drew ?_ | refine blk_alloc ?_ _)); exact BK272.out) hb); have n7_ := Aside0.mk (blk_below (g := gb273) (o := .cells #[.slice Ao34 t268.length co34, .int .i64 t271] 33 (0, 0)) (by (with_reducible repeat (first | refine blk_drewN ?_ _ | refine blk_drew ?_ | refine blk_alloc ?_ _)); refine blk_far ?_ NB273_285.out _; (with_reducible repeat (first | refine blk_drewN ?_ _ | refine blk_drew ?_ | refine blk_alloc ?_ _)); refine blk_far ?_ NB273_285.out _; (with_reducible repeat (first | refine blk_drewN ?_ _ | refine blk_drew ?_ | refine blk_alloc ?_ _)); exact BK273.out) hb); have n8_ := Aside0.mk (blk_below (g := gb279) (o := .cells #[.int .i64 t274, .slice Ao51 t275.length co51] 24 (0, 0)) (by (with_reducible repeat (first | refine blk_drewN ?_ _ | refine blk_drew ?_ | refine blk_alloc ?_ _)); refine blk_far ?_ NB279_285.out _; (with_reducible repeat (first | refine blk_drewN ?_ _ | refine blk_drew ?_ | refine blk_alloc ?_ _)); refine blk_far ?_ NB279_285.out _; (with_reducible repeat (first | refine blk_drewN ?_ _ | refine blk_drew ?_ | refine blk_alloc ?_ _)); exact BK279.out) hb); have n9_ := Aside0.mk (blk_below (g := gb285) (o := .cells #[.int .i64 t280, .slice Ao63 t281.length co63] 24 (0, 0)) (by (with_reducible repeat (first | refine blk_drewN ?_ _ | refine blk_drew ?_ | refine blk_alloc ?_ _)); refine blk_put (cs := #[.int .i64 t280, .slice none 0 0]) ?_ 1 _ rfl; (with_reducible repeat (first | refine blk_drewN ?_ _ | refine blk_drew ?_ | refine blk_alloc ?_ _)); refine blk_put (cs := #[.int .i64 0, .slice none 0 0]) ?_ 0 _ rfl; (with_reducible repeat (first | refine blk_drewN ?_ _ | refine blk_drew ?_ | refine blk_alloc ?_ _)); exact BK285.out) hb); have n10_ := Aside0.mk (below_step (by repeat (first | (with_reducible first | exact HB.out | apply below_alloc | apply pw_below_drewN | apply below_drew1 | refine below_set ?_ GE259.out | refine below_set ?_ GE260.out | refine below_set ?_ GE272.out | refine below_set ?_ GE273.out | refine below_set ?_ GE279.out | refine below_set ?_ GE285.out) | exact HB.out)) hb); clear HO267; clear HO270; clear HO277; clear HO283; clear BK259; clear BK260; clear BK272; clear BK273; clear BK279; clear BK285; clear HB; have HO267 := n0_; have HO270 := n1_; have HO277 := n2_; have HO283 := n3_; have BK259 := n4_; have BK260 := n5_; have BK272 := n6_; have BK273 := n7_; have BK279 := n8_; have BK285 := n9_; have HB := n10_; clear n0_ n1_ n2_ n3_ n4_ n5_ n6_ n7_ n8_ n9_ n10_; (try clear hb); (try clear hb2); (try clear hk); (try clear hi)))
            go_meet
            case rel => exact ⟨_, (t286), (by first | rfl | (simp; done) | (simp [*]; done)), H', ⟨by have := HJ2.out; first | omega | exact Nat.le_refl _⟩, ⟨by (with_reducible repeat (first | apply Kd.S_alloc | apply Kd.S_drewN | apply Kd.S_drew)); exact Kd.S_mono HO267.out (fun _ hk => ⟨hk.1.1.1, ⟨hk.1.2, ⟨hk.2, ⟨hk.1.1.2.1, hk.1.1.2.2⟩⟩⟩⟩)⟩, ⟨by (with_reducible repeat (first | apply Kd.R_alloc | apply Kd.R_drewN | apply Kd.R_drew)); exact HO270.out⟩, ⟨by (with_reducible repeat (first | apply Kd.S_alloc | apply Kd.S_drewN | apply Kd.S_drew)); exact Kd.S_mono HO277.out (fun _ hk => ⟨hk.1.1.1.1.2, ⟨hk.1.1.1.2, ⟨hk.2, ⟨hk.1.1.2, hk.1.2⟩⟩⟩⟩)⟩, ⟨by (with_reducible repeat (first | apply Kd.S_alloc | apply Kd.S_drewN | apply Kd.S_drew)); exact Kd.S_mono HO283.out (fun _ hk => ⟨hk.1.1.1.1.2, ⟨hk.1.1.1.2, ⟨hk.1.1.2, ⟨hk.1.2, hk.2⟩⟩⟩⟩)⟩, ⟨by (with_reducible repeat (first | refine blk_drewN ?_ _ | refine blk_drew ?_ | refine blk_alloc ?_ _)); exact BK259.out⟩, ⟨by (with_reducible repeat (first | refine blk_drewN ?_ _ | refine blk_drew ?_ | refine blk_alloc ?_ _)); exact BK260.out⟩, ⟨by (with_reducible repeat (first | refine blk_drewN ?_ _ | refine blk_drew ?_ | refine blk_alloc ?_ _)); exact BK272.out⟩, ⟨by (with_reducible repeat (first | refine blk_drewN ?_ _ | refine blk_drew ?_ | refine blk_alloc ?_ _)); exact BK273.out⟩, ⟨by (with_reducible repeat (first | refine blk_drewN ?_ _ | refine blk_drew ?_ | refine blk_alloc ?_ _)); exact BK279.out⟩, ⟨by (with_reducible repeat (first | refine blk_drewN ?_ _ | refine blk_drew ?_ | refine blk_alloc ?_ _)); exact BK285.out⟩, ⟨by repeat (first | (with_reducible first | exact HB.out | apply below_alloc | apply pw_below_drewN | apply below_drew1 | refine below_set ?_ GE259.out | refine below_set ?_ GE260.out | refine below_set ?_ GE272.out | refine below_set ?_ GE273.out | refine below_set ?_ GE279.out | refine below_set ?_ GE285.out) | exact HB.out)⟩, ⟨by (with_reducible repeat (first | apply Kd.S_alloc | apply Kd.S_drewN | apply Kd.S_drew)); first | exact HXT.out | (exact (Kd.S_mono (Kd.S_far (p := ⟨gb285, 1, none⟩) (Kd.S_far (p := ⟨gb285, 0, none⟩) (Kd.S_types HXT.out BK285.out (by decide)) (fun _ hk => hk.2) (.int .i64 t280)) (fun _ hk => hk.2) (.slice Ao63 t281.length co63)) (fun _ _ => trivial)))⟩, ⟨by repeat (first | (with_reducible first | exact HXA.out | apply below_alloc | apply pw_below_drewN | apply below_drew1 | refine below_set ?_ GA279.out | refine below_set ?_ GA285.out) | exact HXA.out)⟩⟩
          · rw [if_neg c64] at H
            have c64b0 : (t278 == t284) = false := beq_eq_false_iff_ne.mpr c64
            have c64b1 : (t278 != t284) = true := bne_iff_ne.mpr c64
            (first | rw [c64b0] | (simp only [i64_w, i32_w]; rw [c64b0]) | skip)
            have H' := Aside0.mk H
            clear H
            go_wp2
            go_meet
            case rel => exact ⟨_, (false), (by first | rfl | (simp; done) | (simp [*]; done)), H', ⟨by have := HJ2.out; first | omega | exact Nat.le_refl _⟩, ⟨by (with_reducible repeat (first | apply Kd.S_alloc | apply Kd.S_drewN | apply Kd.S_drew)); exact Kd.S_mono (Kd.S_far (p := ⟨gb285, 1, none⟩) (Kd.S_far (p := ⟨gb285, 0, none⟩) (Kd.S_types HO267.out BK285.out (by decide)) (fun _ hk => hk.2) (.int .i64 t280)) (fun _ hk => hk.2) (.slice Ao63 t281.length co63)) (fun _ hk => ⟨hk.1.1.1.1, ⟨hk.1.1.2, ⟨hk.1.2, ⟨hk.1.1.1.2.1, hk.1.1.1.2.2⟩⟩⟩⟩)⟩, ⟨by (with_reducible repeat (first | apply Kd.R_alloc | apply Kd.R_drewN | apply Kd.R_drew)); exact Kd.R_mono (Kd.R_far (p := ⟨gb285, 1, none⟩) (Kd.R_far (p := ⟨gb285, 0, none⟩) (Kd.R_types HO270.out BK285.out (by decide)) (fun _ hk => hk.2) (.int .i64 t280)) (fun _ hk => hk.2) (.slice Ao63 t281.length co63)) (fun _ hk => trivial)⟩, ⟨by (with_reducible repeat (first | apply Kd.S_alloc | apply Kd.S_drewN | apply Kd.S_drew)); exact Kd.S_mono (Kd.S_far (p := ⟨gb285, 1, none⟩) (Kd.S_far (p := ⟨gb285, 0, none⟩) (Kd.S_types HO277.out BK285.out (by decide)) (fun _ hk => hk.2) (.int .i64 t280)) (fun _ hk => hk.2) (.slice Ao63 t281.length co63)) (fun _ hk => ⟨hk.1.1.1.1.1.2, ⟨hk.1.1.1.1.2, ⟨hk.1.2, ⟨hk.1.1.1.2, hk.1.1.2⟩⟩⟩⟩)⟩, ⟨by (with_reducible repeat (first | apply Kd.S_alloc | apply Kd.S_drewN | apply Kd.S_drew)); exact Kd.S_mono (Kd.S_far (p := ⟨gb285, 1, none⟩) (Kd.S_far (p := ⟨gb285, 0, none⟩) (Kd.S_types HO283.out BK285.out (by decide)) (fun _ hk => hk.2) (.int .i64 t280)) (fun _ hk => hk.2) (.slice Ao63 t281.length co63)) (fun _ hk => ⟨hk.1.1.1.1.1.2, ⟨hk.1.1.1.1.2, ⟨hk.1.1.1.2, ⟨hk.1.1.2, hk.1.2⟩⟩⟩⟩)⟩, ⟨by (with_reducible repeat (first | refine blk_drewN ?_ _ | refine blk_drew ?_ | refine blk_alloc ?_ _)); refine blk_far ?_ NB259_285.out _; (with_reducible repeat (first | refine blk_drewN ?_ _ | refine blk_drew ?_ | refine blk_alloc ?_ _)); refine blk_far ?_ NB259_285.out _; (with_reducible repeat (first | refine blk_drewN ?_ _ | refine blk_drew ?_ | refine blk_alloc ?_ _)); exact BK259.out⟩, ⟨by (with_reducible repeat (first | refine blk_drewN ?_ _ | refine blk_drew ?_ | refine blk_alloc ?_ _)); refine blk_far ?_ NB260_285.out _; (with_reducible repeat (first | refine blk_drewN ?_ _ | refine blk_drew ?_ | refine blk_alloc ?_ _)); refine blk_far ?_ NB260_285.out _; (with_reducible repeat (first | refine blk_drewN ?_ _ | refine blk_drew ?_ | refine blk_alloc ?_ _)); exact BK260.out⟩, ⟨by (with_reducible repeat (first | refine blk_drewN ?_ _ | refine blk_drew ?_ | refine blk_alloc ?_ _)); refine blk_far ?_ NB272_285.out _; (with_reducible repeat (first | refine blk_drewN ?_ _ | refine blk_drew ?_ | refine blk_alloc ?_ _)); refine blk_far ?_ NB272_285.out _; (with_reducible repeat (first | refine blk_drewN ?_ _ | refine blk_drew ?_ | refine blk_alloc ?_ _)); exact BK272.out⟩, ⟨by (with_reducible repeat (first | refine blk_drewN ?_ _ | refine blk_drew ?_ | refine blk_alloc ?_ _)); refine blk_far ?_ NB273_285.out _; (with_reducible repeat (first | refine blk_drewN ?_ _ | refine blk_drew ?_ | refine blk_alloc ?_ _)); refine blk_far ?_ NB273_285.out _; (with_reducible repeat (first | refine blk_drewN ?_ _ | refine blk_drew ?_ | refine blk_alloc ?_ _)); exact BK273.out⟩, ⟨by (with_reducible repeat (first | refine blk_drewN ?_ _ | refine blk_drew ?_ | refine blk_alloc ?_ _)); refine blk_far ?_ NB279_285.out _; (with_reducible repeat (first | refine blk_drewN ?_ _ | refine blk_drew ?_ | refine blk_alloc ?_ _)); refine blk_far ?_ NB279_285.out _; (with_reducible repeat (first | refine blk_drewN ?_ _ | refine blk_drew ?_ | refine blk_alloc ?_ _)); exact BK279.out⟩, ⟨by (with_reducible repeat (first | refine blk_drewN ?_ _ | refine blk_drew ?_ | refine blk_alloc ?_ _)); refine blk_put (cs := #[.int .i64 t280, .slice none 0 0]) ?_ 1 _ rfl; (with_reducible repeat (first | refine blk_drewN ?_ _ | refine blk_drew ?_ | refine blk_alloc ?_ _)); refine blk_put (cs := #[.int .i64 0, .slice none 0 0]) ?_ 0 _ rfl; (with_reducible repeat (first | refine blk_drewN ?_ _ | refine blk_drew ?_ | refine blk_alloc ?_ _)); exact BK285.out⟩, ⟨by repeat (first | (with_reducible first | exact HB.out | apply below_alloc | apply pw_below_drewN | apply below_drew1 | refine below_set ?_ GE259.out | refine below_set ?_ GE260.out | refine below_set ?_ GE272.out | refine below_set ?_ GE273.out | refine below_set ?_ GE279.out | refine below_set ?_ GE285.out) | exact HB.out)⟩, ⟨by (with_reducible repeat (first | apply Kd.S_alloc | apply Kd.S_drewN | apply Kd.S_drew)); first | exact HXT.out | (exact (Kd.S_mono (Kd.S_far (p := ⟨gb285, 1, none⟩) (Kd.S_far (p := ⟨gb285, 0, none⟩) (Kd.S_types HXT.out BK285.out (by decide)) (fun _ hk => hk.2) (.int .i64 t280)) (fun _ hk => hk.2) (.slice Ao63 t281.length co63)) (fun _ _ => trivial)))⟩, ⟨by repeat (first | (with_reducible first | exact HXA.out | apply below_alloc | apply pw_below_drewN | apply below_drew1 | refine below_set ?_ GA279.out | refine below_set ?_ GA285.out) | exact HXA.out)⟩⟩
        case rest =>
          clear HC24
          try clear c1
          try clear c2
          try clear p2
          try clear c3
          try clear c4
          try clear c5
          try clear c6
          try clear c7
          try clear c26
          try clear c37
          try clear c38
          try clear c39
          try clear c41
          try clear c42
          try clear c46
          try clear c47
          try clear c48
          try clear c49
          try clear c52
          try clear c57
          try clear c58
          try clear c59
          try clear c60
          try clear c61
          try clear c64
          try clear c64b0
          try clear c64b1
          try clear c66
          try clear c67
          try clear c68
          try clear c69
          try clear c70
          try clear c72
          try clear c73
          try clear c74
          try clear c75
          try clear hcz40_0
          try clear hcz40_1
          try clear hcz43_0
          try clear hcz43_1
          try clear hcz50_0
          try clear hcz50_1
          try clear hcz53_0
          try clear hcz53_1
          try clear hcz54_0
          try clear hcz54_1
          try clear hcz62_0
          try clear hcz62_1
          try clear hcz71_0
          try clear hcz71_1
          try clear hcz76_0
          try clear hcz76_1
          try clear hfz40_0
          try clear hfz40_1
          try clear hfz43_0
          try clear hfz43_1
          try clear hfz50_0
          try clear hfz50_1
          try clear hfz53_0
          try clear hfz53_1
          try clear hfz54_0
          try clear hfz54_1
          try clear hfz62_0
          try clear hfz62_1
          try clear hfz71_0
          try clear hfz71_1
          try clear hfz76_0
          try clear hfz76_1
          obtain ⟨kq, x11_23, rfl, HA, HJ23, HO_273001, HO_274000, HO_280001, HO_286001, BK259, BK260, BK272, BK273, BK279, BK285, HB, HXT, HXA⟩ := hcut
          cases kq with
          | zero => exact absurd HA.out (by simp [familychecklaw01_LinearAppends.j1])
          | succ kj23 =>
            have H := HA.out
            clear HA
            simp only [familychecklaw01_LinearAppends.j1] at H
            have H' := Aside0.mk H
            clear H
            go_wp2
            go_loopg [12] kj23 (fun kq v12 w' => ∃ (x12_3 : Int) (x274000_3 : List Int) (u274000 : Value), v12 = .int .i64 x12_3 ∧ Aside0 (familychecklaw01_LinearAppends.l0 kq x11_23 x12_3 a0_0 l0_1 l1_0 a1_1 t264 t265 x274000_3 t271 t274 t275 = some r) ∧ Aside0 (kq ≤ kj23) ∧ Aside0 (Kd.S k33 33 w' w.heap.size (fun k_ => some k_ ≠ (u274000 : Value).ownBlock ∧ some k_ ≠ ((.slice Ao51 t275.length co51) : Value).ownBlock ∧ some k_ ≠ ((.slice Ao63 t281.length co63) : Value).ownBlock ∧ k_ ≠ gb260 ∧ k_ ≠ gb273) (.slice Ao32 t265.length co32) t265) ∧ Aside0 (Kd.R (Kd.int .i64) 3 w' w.heap.size (fun _ => True) u274000 x274000_3) ∧ Aside0 (∃ tq : List S33, tq.length = t275.length ∧ Kd.S k33 33 w' wA.heap.size (fun _ => True) (.slice Ao51 t275.length co51) tq) ∧ Aside0 True ∧ Aside0 (w'.heap[gb259]? = some (.cells #[.int .i64 a0_0, (.slice A0_1 l0_1.length c0_1)] 24 (0, 0))) ∧ Aside0 (w'.heap[gb260]? = some (.cells #[(.slice A1_0 l1_0.length c1_0), .int .i64 a1_1] 33 (0, 0))) ∧ Aside0 (w'.heap[gb272]? = some (.cells #[.int .i64 t264, (.slice Ao32 t265.length co32)] 24 (0, 0))) ∧ Aside0 (w'.heap[gb273]? = some (.cells #[u274000, .int .i64 t271] 33 (0, 0))) ∧ Aside0 (w'.heap[gb279]? = some (.cells #[.int .i64 t274, (.slice Ao51 t275.length co51)] 24 (0, 0))) ∧ Aside0 (w'.heap[gb285]? = some (.cells #[.int .i64 t280, (.slice Ao63 t281.length co63)] 24 (0, 0))) ∧ Aside0 (Below w.heap.size w w') ∧ Aside0 (Below wA.heap.size wA w') ∧ Aside0 (x274000_3 = t268 ∧ u274000 = .slice Ao34 t268.length co34))
            case atStart => exact ⟨(0), (t268), (.slice Ao34 t268.length co34), (by first | rfl | (simp; done) | (simp [*]; done)), H', ⟨Nat.le_refl _⟩, ⟨by (with_reducible repeat (first | apply Kd.S_alloc | apply Kd.S_drewN | apply Kd.S_drew)); exact HO_273001.out⟩, ⟨by (with_reducible repeat (first | apply Kd.R_alloc | apply Kd.R_drewN | apply Kd.R_drew)); exact HO_274000.out⟩, ⟨t275, rfl, by (with_reducible repeat (first | apply Kd.S_alloc | apply Kd.S_drewN | apply Kd.S_drew)); exact HXT.out⟩, ⟨trivial⟩, ⟨by (with_reducible repeat (first | refine blk_drewN ?_ _ | refine blk_drew ?_ | refine blk_alloc ?_ _)); exact BK259.out⟩, ⟨by (with_reducible repeat (first | refine blk_drewN ?_ _ | refine blk_drew ?_ | refine blk_alloc ?_ _)); exact BK260.out⟩, ⟨by (with_reducible repeat (first | refine blk_drewN ?_ _ | refine blk_drew ?_ | refine blk_alloc ?_ _)); exact BK272.out⟩, ⟨by (with_reducible repeat (first | refine blk_drewN ?_ _ | refine blk_drew ?_ | refine blk_alloc ?_ _)); exact BK273.out⟩, ⟨by (with_reducible repeat (first | refine blk_drewN ?_ _ | refine blk_drew ?_ | refine blk_alloc ?_ _)); exact BK279.out⟩, ⟨by (with_reducible repeat (first | refine blk_drewN ?_ _ | refine blk_drew ?_ | refine blk_alloc ?_ _)); exact BK285.out⟩, ⟨by repeat (first | (with_reducible first | exact HB.out | apply below_alloc | apply pw_below_drewN | apply below_drew1 | refine below_set ?_ GE259.out | refine below_set ?_ GE260.out | refine below_set ?_ GE272.out | refine below_set ?_ GE273.out | refine below_set ?_ GE279.out | refine below_set ?_ GE285.out) | exact HB.out)⟩, ⟨by repeat (first | (with_reducible first | exact HXA.out | apply below_alloc | apply pw_below_drewN | apply below_drew1) | exact HXA.out)⟩, ⟨rfl, rfl⟩⟩
            case round =>
              clear H'
              try clear c1
              try clear c2
              try clear p2
              try clear c3
              try clear c4
              try clear c5
              try clear c6
              try clear c7
              try clear c26
              try clear c37
              try clear c38
              try clear c39
              try clear c41
              try clear c42
              try clear c46
              try clear c47
              try clear c48
              try clear c49
              try clear c52
              try clear c57
              try clear c58
              try clear c59
              try clear c60
              try clear c61
              try clear c64
              try clear c64b0
              try clear c64b1
              try clear c66
              try clear c67
              try clear c68
              try clear c69
              try clear c70
              try clear c72
              try clear c73
              try clear c74
              try clear c75
              try clear hcz40_0
              try clear hcz40_1
              try clear hcz43_0
              try clear hcz43_1
              try clear hcz50_0
              try clear hcz50_1
              try clear hcz53_0
              try clear hcz53_1
              try clear hcz54_0
              try clear hcz54_1
              try clear hcz62_0
              try clear hcz62_1
              try clear hcz71_0
              try clear hcz71_1
              try clear hcz76_0
              try clear hcz76_1
              try clear hfz40_0
              try clear hfz40_1
              try clear hfz43_0
              try clear hfz43_1
              try clear hfz50_0
              try clear hfz50_1
              try clear hfz53_0
              try clear hfz53_1
              try clear hfz54_0
              try clear hfz54_1
              try clear hfz62_0
              try clear hfz62_1
              try clear hfz71_0
              try clear hfz71_1
              try clear hfz76_0
              try clear hfz76_1
              try clear p2
              obtain ⟨x12_3, x274000_3, u274000, rfl, HA, HK3, HO_273001, HO_274000, HO_280001, HO_286001, BK259, BK260, BK272, BK273, BK279, BK285, HB, HXA, HXE⟩ := hrel
              cases gk with
              | zero => exact absurd HA.out (by simp [familychecklaw01_LinearAppends.l0])
              | succ k3 =>
                have H := HA.out
                clear HA
                simp only [familychecklaw01_LinearAppends.l0] at H
                by_cases c78 : x12_3 < (t275.length : Int)
                · rw [if_pos c78] at H
                  have c78b0 : decide (x12_3 < (t275.length : Int)) = true := decide_eq_true c78
                  clear c78
                  by_cases c79 : 0 ≤ x12_3
                  · rw [if_pos c79] at H
                    have c79b0 : decide (0 ≤ x12_3) = true := decide_eq_true c79
                    clear c79
                    replace H := Option.bind_eq_some_iff.mp H
                    obtain ⟨_, A800, H⟩ := H
                    replace H : (familychecklaw01_LinearAppends.l0 k3 x11_23 (wrap64 (x12_3 + 1)) a0_0 l0_1 l1_0 a1_1 t264 t265 x274000_3 t271 t274 t275) = some r := H
                    have A80 := Aside0.mk A800
                    clear A800
                    have H' := Aside0.mk H
                    clear H
                    have hnb81 := NB279_259.out
                    have hnc81 := NB259_279.out
                    have hnb82 := NB279_260.out
                    have hnc82 := NB260_279.out
                    have hnb83 := NB279_272.out
                    have hnc83 := NB272_279.out
                    have hnb84 := NB279_273.out
                    have hnc84 := NB273_279.out
                    have hnb85 := NB279_285.out
                    have hnc85 := NB285_279.out
                    have hcz86_0 : wr.cell? ⟨gb279, 0, none⟩ = some (.int .i64 t274) := (blk_cell BK279.out 0).trans rfl
                    have hcz86_1 : wr.cell? ⟨gb279, 1, none⟩ = some (.slice Ao51 t275.length co51) := (blk_cell BK279.out 1).trans rfl
                    have hfz86_0 := blk_frozen BK279.out 0
                    have hfz86_1 := blk_frozen BK279.out 1
                    have p287 : 0 ≤ (x12_3 : Int) := of_decide_eq_true (by first | (with_reducible assumption) | assumption)
                    have q287 : x12_3 < (t275.length : Int) := of_decide_eq_true (by first | (with_reducible assumption) | assumption)
                    obtain ⟨tq, hxlen, hxS⟩ := HO_280001.out
                    have q287' : x12_3 < (tq.length : Int) := by rw [hxlen]; exact q287
                    obtain ⟨ad287, A287_0, c287_0, e287, hx287_0, hx287_1, hl287_0, hi287_0⟩ := at_T33 (Kd.S_reads' (n := t275.length) (c := co51) (show Kd.S k33 33 wr wA.heap.size (fun _ => True) (.slice Ao51 t275.length co51) tq from hxS)).2.2 x12_3 p287 q287'
                    cases e287
                    have HXS := Aside0.mk hxS
                    have HX0 := Aside0.mk hx287_0
                    have HXP := Aside0.mk p287
                    have HXQ := Aside0.mk q287
                    clear hxS hl287_0 hi287_0
                    have HXL := Aside0.mk hxlen
                    clear hxlen q287'
                    replace p287 := eq_true p287
                    replace q287 := eq_true q287
                    go_wp2_with fail
                    refine (spoil_row wA _ _ _ _ tq x12_3 A287_0 c287_0 (by repeat (first | (with_reducible first | exact HXA.out | apply below_alloc | apply pw_below_drewN | apply below_drew1) | exact HXA.out)) (by (with_reducible repeat (first | apply Kd.S_alloc | apply Kd.S_drewN | apply Kd.S_drew)); exact HXS.out) HXP.out HXQ.out ?hcl).mono ?_
                    (case hcl => first | exact HX0.out | (go_simp; done))
                    rintro e wz ⟨rfl, hz1, ⟨tz, hz2, hz3⟩, hz4⟩
                    have n0_ := Aside0.mk hz1
                    have n1_ : Aside0 (∃ tq : List S33, tq.length = t275.length ∧ Kd.S k33 33 wz wA.heap.size (fun _ => True) (.slice (some ad287) t275.length co51) tq) := ⟨tz, hz2.trans HXL.out, hz3⟩
                    have n2_ : Aside0 (Kd.S k33 33 wz w.heap.size (fun k_ => some k_ ≠ (u274000 : Value).ownBlock ∧ some k_ ≠ ((.slice (some ad287) t275.length co51) : Value).ownBlock ∧ some k_ ≠ ((.slice Ao63 t281.length co63) : Value).ownBlock ∧ k_ ≠ gb260 ∧ k_ ≠ gb273) (.slice Ao32 t265.length co32) t265) := ⟨Kd.S_mono (Kd.S_below (Kd.S_bound WO.out) (show Below wA.heap.size wA wz from n0_.out)) (fun k_ hk_ => ⟨by rw [HXE.out.2]; exact hk_.1.1, fun he_ => absurd (Kd.S_base HXS.out _ he_.symm) (Nat.not_le.2 hk_.2.2.1), fun he_ => absurd (HXU.out _ he_.symm) (Nat.not_le.2 hk_.2.2.1), hk_.1.2.1, hk_.1.2.2⟩)⟩
                    have n3_ : Aside0 (Kd.R (Kd.int .i64) 3 wz w.heap.size (fun _ => True) u274000 x274000_3) := ⟨by rw [HXE.out.1, HXE.out.2]; exact Kd.R_mono (Kd.R_below WR.out (show Below wA.heap.size wA wz from n0_.out)) (fun _ _ => trivial)⟩
                    have n4_ := Aside0.mk (blk_below Wgb259.out (show Below wA.heap.size wA wz from n0_.out))
                    have n5_ := Aside0.mk (blk_below Wgb260.out (show Below wA.heap.size wA wz from n0_.out))
                    have n6_ := Aside0.mk (blk_below Wgb272.out (show Below wA.heap.size wA wz from n0_.out))
                    have n7_ : Aside0 (wz.heap[gb273]? = some (.cells #[u274000, .int .i64 t271] 33 (0, 0))) := ⟨by rw [HXE.out.2]; exact blk_below Wgb273.out (show Below wA.heap.size wA wz from n0_.out)⟩
                    have n8_ := Aside0.mk (hz4 gb279 _ (by (with_reducible repeat (first | refine blk_drewN ?_ _ | refine blk_drew ?_ | refine blk_alloc ?_ _)); exact BK279.out))
                    have n9_ := Aside0.mk (hz4 gb285 _ (by (with_reducible repeat (first | refine blk_drewN ?_ _ | refine blk_drew ?_ | refine blk_alloc ?_ _)); exact BK285.out))
                    have n10_ := Aside0.mk (WB.out.trans ((show Below wA.heap.size wA wz from n0_.out).mono (WB.out.size)))
                    clear HXA HO_280001 HO_273001 HO_274000 BK259 BK260 BK272 BK273 BK279 BK285 HB
                    have HXA := n0_
                    have HO_280001 := n1_
                    have HO_273001 := n2_
                    have HO_274000 := n3_
                    have BK259 := n4_
                    have BK260 := n5_
                    have BK272 := n6_
                    have BK273 := n7_
                    have BK279 := n8_
                    have BK285 := n9_
                    have HB := n10_
                    clear n0_ n1_ n2_ n3_ n4_ n5_ n6_ n7_ n8_ n9_ n10_
                    clear hz1 hz2 hz3 hz4
                    go_wp2
                    go_roundg k3
                    case measure => have := HJ2.out; have := HJ23.out; have := HK3.out; omega
                    case rel => exact ⟨(wrap64 (x12_3 + 1)), (x274000_3), (u274000), (by first | rfl | (simp; done) | (simp [*]; done)), H', ⟨by have := HJ2.out; have := HJ23.out; have := HK3.out; omega⟩, ⟨by (with_reducible repeat (first | apply Kd.S_alloc | apply Kd.S_drewN | apply Kd.S_drew)); exact HO_273001.out⟩, ⟨by (with_reducible repeat (first | apply Kd.R_alloc | apply Kd.R_drewN | apply Kd.R_drew)); exact HO_274000.out⟩, ⟨by obtain ⟨ty, hy1, hy2⟩ := HO_280001.out; exact ⟨ty, hy1, by (with_reducible repeat (first | apply Kd.S_alloc | apply Kd.S_drewN | apply Kd.S_drew)); exact hy2⟩⟩, ⟨trivial⟩, ⟨by (with_reducible repeat (first | refine blk_drewN ?_ _ | refine blk_drew ?_ | refine blk_alloc ?_ _)); exact BK259.out⟩, ⟨by (with_reducible repeat (first | refine blk_drewN ?_ _ | refine blk_drew ?_ | refine blk_alloc ?_ _)); exact BK260.out⟩, ⟨by (with_reducible repeat (first | refine blk_drewN ?_ _ | refine blk_drew ?_ | refine blk_alloc ?_ _)); exact BK272.out⟩, ⟨by (with_reducible repeat (first | refine blk_drewN ?_ _ | refine blk_drew ?_ | refine blk_alloc ?_ _)); exact BK273.out⟩, ⟨by (with_reducible repeat (first | refine blk_drewN ?_ _ | refine blk_drew ?_ | refine blk_alloc ?_ _)); exact BK279.out⟩, ⟨by (with_reducible repeat (first | refine blk_drewN ?_ _ | refine blk_drew ?_ | refine blk_alloc ?_ _)); exact BK285.out⟩, ⟨by repeat (first | (with_reducible first | exact HB.out | apply below_alloc | apply pw_below_drewN | apply below_drew1 | refine below_set ?_ GE259.out | refine below_set ?_ GE260.out | refine below_set ?_ GE272.out | refine below_set ?_ GE273.out | refine below_set ?_ GE279.out | refine below_set ?_ GE285.out) | exact HB.out)⟩, ⟨by repeat (first | (with_reducible first | exact HXA.out | apply below_alloc | apply pw_below_drewN | apply below_drew1) | exact HXA.out)⟩, HXE⟩
                  · rw [if_neg c79] at H
                    exact absurd H (by simp)
                · rw [if_neg c78] at H
                  have c78b0 : decide (x12_3 < (t275.length : Int)) = false := decide_eq_false c78
                  clear c78
                  by_cases c88 : x11_23 = true
                  · subst c88
                    have H1 : ((familycheckref01_SameSystem.f k3 t264 t265 a0_0 l0_1).bind fun t288 => (if t288 = true then ((familycheckref01_SameRow.f k3 x274000_3 t271 l1_0 a1_1).bind fun t289 => (if t289 = true then ((familychecklaw01_known.f k3).bind fun t290 => (some t290)) else (some false))) else (some false))) = some r := by rw [if_pos rfl] at H; exact H
                    clear H
                    have H := H1
                    clear H1
                    replace H := Option.bind_eq_some_iff.mp H
                    obtain ⟨t288, A890, H⟩ := H
                    replace H : (if t288 = true then ((familycheckref01_SameRow.f k3 x274000_3 t271 l1_0 a1_1).bind fun t289 => (if t289 = true then ((familychecklaw01_known.f k3).bind fun t290 => (some t290)) else (some false))) else (some false)) = some r := H
                    have A89 := Aside0.mk A890
                    clear A890
                    by_cases c90 : t288 = true
                    · subst c90
                      have H1 : ((familycheckref01_SameRow.f k3 x274000_3 t271 l1_0 a1_1).bind fun t289 => (if t289 = true then ((familychecklaw01_known.f k3).bind fun t290 => (some t290)) else (some false))) = some r := by rw [if_pos rfl] at H; exact H
                      clear H
                      have H := H1
                      clear H1
                      replace H := Option.bind_eq_some_iff.mp H
                      obtain ⟨t289, A910, H⟩ := H
                      replace H : (if t289 = true then ((familychecklaw01_known.f k3).bind fun t290 => (some t290)) else (some false)) = some r := H
                      have A91 := Aside0.mk A910
                      clear A910
                      by_cases c92 : t289 = true
                      · subst c92
                        have H1 : ((familychecklaw01_known.f k3).bind fun t290 => (some t290)) = some r := by rw [if_pos rfl] at H; exact H
                        clear H
                        have H := H1
                        clear H1
                        replace H := Option.bind_eq_some_iff.mp H
                        obtain ⟨t290, A930, H⟩ := H
                        replace H : (some t290) = some r := H
                        have A93 := Aside0.mk A930
                        clear A930
                        obtain rfl := Option.some.inj H
                        have hnb94 := NB279_259.out
                        have hnc94 := NB259_279.out
                        have hnb95 := NB279_260.out
                        have hnc95 := NB260_279.out
                        have hnb96 := NB279_272.out
                        have hnc96 := NB272_279.out
                        have hnb97 := NB279_273.out
                        have hnc97 := NB273_279.out
                        have hnb98 := NB279_285.out
                        have hnc98 := NB285_279.out
                        have hcz99_0 : wr.cell? ⟨gb279, 0, none⟩ = some (.int .i64 t274) := (blk_cell BK279.out 0).trans rfl
                        have hcz99_1 : wr.cell? ⟨gb279, 1, none⟩ = some (.slice Ao51 t275.length co51) := (blk_cell BK279.out 1).trans rfl
                        have hfz99_0 := blk_frozen BK279.out 0
                        have hfz99_1 := blk_frozen BK279.out 1
                        have hnb100 := NB272_259.out
                        have hnc100 := NB259_272.out
                        have hnb101 := NB272_260.out
                        have hnc101 := NB260_272.out
                        have hnb102 := NB272_273.out
                        have hnc102 := NB273_272.out
                        have hnb103 := NB272_285.out
                        have hnc103 := NB285_272.out
                        have hcz104_0 : wr.cell? ⟨gb272, 0, none⟩ = some (.int .i64 t264) := (blk_cell BK272.out 0).trans rfl
                        have hcz104_1 : wr.cell? ⟨gb272, 1, none⟩ = some (.slice Ao32 t265.length co32) := (blk_cell BK272.out 1).trans rfl
                        have hfz104_0 := blk_frozen BK272.out 0
                        have hfz104_1 := blk_frozen BK272.out 1
                        have hnb105 := NB259_260.out
                        have hnc105 := NB260_259.out
                        have hnb106 := NB259_273.out
                        have hnc106 := NB273_259.out
                        have hnb107 := NB259_285.out
                        have hnc107 := NB285_259.out
                        have hcz108_0 : wr.cell? ⟨gb259, 0, none⟩ = some (.int .i64 a0_0) := (blk_cell BK259.out 0).trans rfl
                        have hcz108_1 : wr.cell? ⟨gb259, 1, none⟩ = some (.slice A0_1 l0_1.length c0_1) := (blk_cell BK259.out 1).trans rfl
                        have hfz108_0 := blk_frozen BK259.out 0
                        have hfz108_1 := blk_frozen BK259.out 1
                        go_wp2_with (first | (go_at_call 20; (with_reducible refine (familycheckref01_SameSystem.calls k3 t264 _ _ t265 a0_0 _ _ l0_1 true _ ?side1 ?side2 ?side3 ?side4 A89.out).mono ?_); (case side1 => repeat (first | exact (Kd.S_reads' HO_273001.out).2.2 | (with_reducible refine Kd.C_alloc ?_ _) | (with_reducible refine Kd.C_drewN ?_ _) | (with_reducible refine Kd.C_drew ?_))); (case side2 => exact (Kd.S_reads' HO_273001.out).2.1); (case side3 => repeat (first | exact (Kd.C_below HR0_1.out HB.out) | (with_reducible refine Kd.C_alloc ?_ _) | (with_reducible refine Kd.C_drewN ?_ _) | (with_reducible refine Kd.C_drew ?_))); (case side4 => exact HC0_1.out); rintro e w109 ⟨rfl, hb⟩; have n0_ := Aside0.mk (Kd.S_below (by (with_reducible repeat (first | apply Kd.S_alloc | apply Kd.S_drewN | apply Kd.S_drew)); exact HO_273001.out) hb); have n1_ := Aside0.mk (Kd.R_below (by (with_reducible repeat (first | apply Kd.R_alloc | apply Kd.R_drewN | apply Kd.R_drew)); exact HO_274000.out) hb); have n2_ := Aside0.mk True.intro; have n3_ := Aside0.mk True.intro; have n4_ := Aside0.mk (blk_below (g := gb259) (o := .cells #[.int .i64 a0_0, .slice A0_1 l0_1.length c0_1] 24 (0, 0)) (by (with_reducible repeat (first | refine blk_drewN ?_ _ | refine blk_drew ?_ | refine blk_alloc ?_ _)); exact BK259.out) hb); have n5_ := Aside0.mk (blk_below (g := gb260) (o := .cells #[.slice A1_0 l1_0.length c1_0, .int .i64 a1_1] 33 (0, 0)) (by (with_reducible repeat (first | refine blk_drewN ?_ _ | refine blk_drew ?_ | refine blk_alloc ?_ _)); exact BK260.out) hb); have n6_ := Aside0.mk (blk_below (g := gb272) (o := .cells #[.int .i64 t264, .slice Ao32 t265.length co32] 24 (0, 0)) (by (with_reducible repeat (first | refine blk_drewN ?_ _ | refine blk_drew ?_ | refine blk_alloc ?_ _)); exact BK272.out) hb); have n7_ := Aside0.mk (blk_below (g := gb273) (o := .cells #[u274000, .int .i64 t271] 33 (0, 0)) (by (with_reducible repeat (first | refine blk_drewN ?_ _ | refine blk_drew ?_ | refine blk_alloc ?_ _)); exact BK273.out) hb); have n8_ := Aside0.mk (blk_below (g := gb279) (o := .cells #[.int .i64 t274, .slice Ao51 t275.length co51] 24 (0, 0)) (by (with_reducible repeat (first | refine blk_drewN ?_ _ | refine blk_drew ?_ | refine blk_alloc ?_ _)); exact BK279.out) hb); have n9_ := Aside0.mk (blk_below (g := gb285) (o := .cells #[.int .i64 t280, .slice Ao63 t281.length co63] 24 (0, 0)) (by (with_reducible repeat (first | refine blk_drewN ?_ _ | refine blk_drew ?_ | refine blk_alloc ?_ _)); exact BK285.out) hb); have n10_ := Aside0.mk (below_step (by repeat (first | (with_reducible first | exact HB.out | apply below_alloc | apply pw_below_drewN | apply below_drew1 | refine below_set ?_ GE259.out | refine below_set ?_ GE260.out | refine below_set ?_ GE272.out | refine below_set ?_ GE273.out | refine below_set ?_ GE279.out | refine below_set ?_ GE285.out) | exact HB.out)) hb); clear HO_273001; clear HO_274000; clear HO_280001; clear HO_286001; clear BK259; clear BK260; clear BK272; clear BK273; clear BK279; clear BK285; clear HB; have HO_273001 := n0_; have HO_274000 := n1_; have HO_280001 := n2_; have HO_286001 := n3_; have BK259 := n4_; have BK260 := n5_; have BK272 := n6_; have BK273 := n7_; have BK279 := n8_; have BK285 := n9_; have HB := n10_; clear n0_ n1_ n2_ n3_ n4_ n5_ n6_ n7_ n8_ n9_ n10_; (try clear hb); (try clear hb2); (try clear hk); (try clear hi); have hnb110 := NB273_260.out; have hnc110 := NB260_273.out; have hnb111 := NB273_285.out; have hnc111 := NB285_273.out; have hcz112_0 : w109.cell? ⟨gb273, 0, none⟩ = some (u274000) := (blk_cell BK273.out 0).trans rfl; have hcz112_1 : w109.cell? ⟨gb273, 1, none⟩ = some (.int .i64 t271) := (blk_cell BK273.out 1).trans rfl; have hfz112_0 := blk_frozen BK273.out 0; have hfz112_1 := blk_frozen BK273.out 1; have hnb113 := NB260_285.out; have hnc113 := NB285_260.out; have hcz114_0 : w109.cell? ⟨gb260, 0, none⟩ = some (.slice A1_0 l1_0.length c1_0) := (blk_cell BK260.out 0).trans rfl; have hcz114_1 : w109.cell? ⟨gb260, 1, none⟩ = some (.int .i64 a1_1) := (blk_cell BK260.out 1).trans rfl; have hfz114_0 := blk_frozen BK260.out 0; have hfz114_1 := blk_frozen BK260.out 1; obtain ⟨Ao115, co115, eo115⟩ := Kd.R_slice HO_274000.out; subst eo115) | (go_at_call 28; (with_reducible refine (familycheckref01_SameRow.calls k3 _ _ x274000_3 t271 _ _ l1_0 a1_1 true _ ?side1 ?side2 ?side3 ?side4 A91.out).mono ?_); (case side1 => repeat (first | exact (Kd.R_reads' HO_274000.out).2.2 | (with_reducible refine Kd.C_alloc ?_ _) | (with_reducible refine Kd.C_drewN ?_ _) | (with_reducible refine Kd.C_drew ?_))); (case side2 => exact (Kd.R_reads' HO_274000.out).2.1); (case side3 => repeat (first | exact (Kd.C_below HR1_0.out HB.out) | (with_reducible refine Kd.C_alloc ?_ _) | (with_reducible refine Kd.C_drewN ?_ _) | (with_reducible refine Kd.C_drew ?_))); (case side4 => exact HC1_0.out); rintro e w116 ⟨rfl, hb⟩; have n0_ := Aside0.mk (Kd.S_below (by (with_reducible repeat (first | apply Kd.S_alloc | apply Kd.S_drewN | apply Kd.S_drew)); exact HO_273001.out) hb); have n1_ := Aside0.mk (Kd.R_below (by (with_reducible repeat (first | apply Kd.R_alloc | apply Kd.R_drewN | apply Kd.R_drew)); exact HO_274000.out) hb); have n2_ := Aside0.mk True.intro; have n3_ := Aside0.mk True.intro; have n4_ := Aside0.mk (blk_below (g := gb259) (o := .cells #[.int .i64 a0_0, .slice A0_1 l0_1.length c0_1] 24 (0, 0)) (by (with_reducible repeat (first | refine blk_drewN ?_ _ | refine blk_drew ?_ | refine blk_alloc ?_ _)); exact BK259.out) hb); have n5_ := Aside0.mk (blk_below (g := gb260) (o := .cells #[.slice A1_0 l1_0.length c1_0, .int .i64 a1_1] 33 (0, 0)) (by (with_reducible repeat (first | refine blk_drewN ?_ _ | refine blk_drew ?_ | refine blk_alloc ?_ _)); exact BK260.out) hb); have n6_ := Aside0.mk (blk_below (g := gb272) (o := .cells #[.int .i64 t264, .slice Ao32 t265.length co32] 24 (0, 0)) (by (with_reducible repeat (first | refine blk_drewN ?_ _ | refine blk_drew ?_ | refine blk_alloc ?_ _)); exact BK272.out) hb); have n7_ := Aside0.mk (blk_below (g := gb273) (o := .cells #[.slice Ao115 x274000_3.length co115, .int .i64 t271] 33 (0, 0)) (by (with_reducible repeat (first | refine blk_drewN ?_ _ | refine blk_drew ?_ | refine blk_alloc ?_ _)); exact BK273.out) hb); have n8_ := Aside0.mk (blk_below (g := gb279) (o := .cells #[.int .i64 t274, .slice Ao51 t275.length co51] 24 (0, 0)) (by (with_reducible repeat (first | refine blk_drewN ?_ _ | refine blk_drew ?_ | refine blk_alloc ?_ _)); exact BK279.out) hb); have n9_ := Aside0.mk (blk_below (g := gb285) (o := .cells #[.int .i64 t280, .slice Ao63 t281.length co63] 24 (0, 0)) (by (with_reducible repeat (first | refine blk_drewN ?_ _ | refine blk_drew ?_ | refine blk_alloc ?_ _)); exact BK285.out) hb); have n10_ := Aside0.mk (below_step (by repeat (first | (with_reducible first | exact HB.out | apply below_alloc | apply pw_below_drewN | apply below_drew1 | refine below_set ?_ GE259.out | refine below_set ?_ GE260.out | refine below_set ?_ GE272.out | refine below_set ?_ GE273.out | refine below_set ?_ GE279.out | refine below_set ?_ GE285.out) | exact HB.out)) hb); clear HO_273001; clear HO_274000; clear HO_280001; clear HO_286001; clear BK259; clear BK260; clear BK272; clear BK273; clear BK279; clear BK285; clear HB; have HO_273001 := n0_; have HO_274000 := n1_; have HO_280001 := n2_; have HO_286001 := n3_; have BK259 := n4_; have BK260 := n5_; have BK272 := n6_; have BK273 := n7_; have BK279 := n8_; have BK285 := n9_; have HB := n10_; clear n0_ n1_ n2_ n3_ n4_ n5_ n6_ n7_ n8_ n9_ n10_; (try clear hb); (try clear hb2); (try clear hk); (try clear hi)) | (go_at_call 16; (with_reducible refine (familychecklaw01_known.calls k3  t290 _ A93.out).mono ?_); rintro e w117 ⟨rfl, hb⟩; have n0_ := Aside0.mk (Kd.S_below (by (with_reducible repeat (first | apply Kd.S_alloc | apply Kd.S_drewN | apply Kd.S_drew)); exact HO_273001.out) hb); have n1_ := Aside0.mk (Kd.R_below (by (with_reducible repeat (first | apply Kd.R_alloc | apply Kd.R_drewN | apply Kd.R_drew)); exact HO_274000.out) hb); have n2_ := Aside0.mk True.intro; have n3_ := Aside0.mk True.intro; have n4_ := Aside0.mk (blk_below (g := gb259) (o := .cells #[.int .i64 a0_0, .slice A0_1 l0_1.length c0_1] 24 (0, 0)) (by (with_reducible repeat (first | refine blk_drewN ?_ _ | refine blk_drew ?_ | refine blk_alloc ?_ _)); exact BK259.out) hb); have n5_ := Aside0.mk (blk_below (g := gb260) (o := .cells #[.slice A1_0 l1_0.length c1_0, .int .i64 a1_1] 33 (0, 0)) (by (with_reducible repeat (first | refine blk_drewN ?_ _ | refine blk_drew ?_ | refine blk_alloc ?_ _)); exact BK260.out) hb); have n6_ := Aside0.mk (blk_below (g := gb272) (o := .cells #[.int .i64 t264, .slice Ao32 t265.length co32] 24 (0, 0)) (by (with_reducible repeat (first | refine blk_drewN ?_ _ | refine blk_drew ?_ | refine blk_alloc ?_ _)); exact BK272.out) hb); have n7_ := Aside0.mk (blk_below (g := gb273) (o := .cells #[.slice Ao115 x274000_3.length co115, .int .i64 t271] 33 (0, 0)) (by (with_reducible repeat (first | refine blk_drewN ?_ _ | refine blk_drew ?_ | refine blk_alloc ?_ _)); exact BK273.out) hb); have n8_ := Aside0.mk (blk_below (g := gb279) (o := .cells #[.int .i64 t274, .slice Ao51 t275.length co51] 24 (0, 0)) (by (with_reducible repeat (first | refine blk_drewN ?_ _ | refine blk_drew ?_ | refine blk_alloc ?_ _)); exact BK279.out) hb); have n9_ := Aside0.mk (blk_below (g := gb285) (o := .cells #[.int .i64 t280, .slice Ao63 t281.length co63] 24 (0, 0)) (by (with_reducible repeat (first | refine blk_drewN ?_ _ | refine blk_drew ?_ | refine blk_alloc ?_ _)); exact BK285.out) hb); have n10_ := Aside0.mk (below_step (by repeat (first | (with_reducible first | exact HB.out | apply below_alloc | apply pw_below_drewN | apply below_drew1 | refine below_set ?_ GE259.out | refine below_set ?_ GE260.out | refine below_set ?_ GE272.out | refine below_set ?_ GE273.out | refine below_set ?_ GE279.out | refine below_set ?_ GE285.out) | exact HB.out)) hb); clear HO_273001; clear HO_274000; clear HO_280001; clear HO_286001; clear BK259; clear BK260; clear BK272; clear BK273; clear BK279; clear BK285; clear HB; have HO_273001 := n0_; have HO_274000 := n1_; have HO_280001 := n2_; have HO_286001 := n3_; have BK259 := n4_; have BK260 := n5_; have BK272 := n6_; have BK273 := n7_; have BK279 := n8_; have BK285 := n9_; have HB := n10_; clear n0_ n1_ n2_ n3_ n4_ n5_ n6_ n7_ n8_ n9_ n10_; (try clear hb); (try clear hb2); (try clear hk); (try clear hi)))
                        go_ret
                        exact ⟨by first | rfl | (simp [errW_none, errW_some] <;> rfl) | (simp [*, errW_none, errW_some] <;> rfl), by repeat (first | (with_reducible first | exact HB.out | apply below_alloc | apply pw_below_drewN | apply below_drew1 | refine below_set ?_ GE259.out | refine below_set ?_ GE260.out | refine below_set ?_ GE272.out | refine below_set ?_ GE273.out | refine below_set ?_ GE279.out | refine below_set ?_ GE285.out) | exact HB.out)⟩
                      · replace c92 := Bool.eq_false_iff.mpr c92
                        subst c92
                        have H1 : (some false) = some r := by rw [if_neg (show ¬ (false = true) by decide)] at H; exact H
                        clear H
                        have H := H1
                        clear H1
                        obtain rfl := Option.some.inj H
                        have hnb118 := NB279_259.out
                        have hnc118 := NB259_279.out
                        have hnb119 := NB279_260.out
                        have hnc119 := NB260_279.out
                        have hnb120 := NB279_272.out
                        have hnc120 := NB272_279.out
                        have hnb121 := NB279_273.out
                        have hnc121 := NB273_279.out
                        have hnb122 := NB279_285.out
                        have hnc122 := NB285_279.out
                        have hcz123_0 : wr.cell? ⟨gb279, 0, none⟩ = some (.int .i64 t274) := (blk_cell BK279.out 0).trans rfl
                        have hcz123_1 : wr.cell? ⟨gb279, 1, none⟩ = some (.slice Ao51 t275.length co51) := (blk_cell BK279.out 1).trans rfl
                        have hfz123_0 := blk_frozen BK279.out 0
                        have hfz123_1 := blk_frozen BK279.out 1
                        have hnb124 := NB272_259.out
                        have hnc124 := NB259_272.out
                        have hnb125 := NB272_260.out
                        have hnc125 := NB260_272.out
                        have hnb126 := NB272_273.out
                        have hnc126 := NB273_272.out
                        have hnb127 := NB272_285.out
                        have hnc127 := NB285_272.out
                        have hcz128_0 : wr.cell? ⟨gb272, 0, none⟩ = some (.int .i64 t264) := (blk_cell BK272.out 0).trans rfl
                        have hcz128_1 : wr.cell? ⟨gb272, 1, none⟩ = some (.slice Ao32 t265.length co32) := (blk_cell BK272.out 1).trans rfl
                        have hfz128_0 := blk_frozen BK272.out 0
                        have hfz128_1 := blk_frozen BK272.out 1
                        have hnb129 := NB259_260.out
                        have hnc129 := NB260_259.out
                        have hnb130 := NB259_273.out
                        have hnc130 := NB273_259.out
                        have hnb131 := NB259_285.out
                        have hnc131 := NB285_259.out
                        have hcz132_0 : wr.cell? ⟨gb259, 0, none⟩ = some (.int .i64 a0_0) := (blk_cell BK259.out 0).trans rfl
                        have hcz132_1 : wr.cell? ⟨gb259, 1, none⟩ = some (.slice A0_1 l0_1.length c0_1) := (blk_cell BK259.out 1).trans rfl
                        have hfz132_0 := blk_frozen BK259.out 0
                        have hfz132_1 := blk_frozen BK259.out 1
                        go_wp2_with (first | (go_at_call 20; (with_reducible refine (familycheckref01_SameSystem.calls k3 t264 _ _ t265 a0_0 _ _ l0_1 true _ ?side1 ?side2 ?side3 ?side4 A89.out).mono ?_); (case side1 => repeat (first | exact (Kd.S_reads' HO_273001.out).2.2 | (with_reducible refine Kd.C_alloc ?_ _) | (with_reducible refine Kd.C_drewN ?_ _) | (with_reducible refine Kd.C_drew ?_))); (case side2 => exact (Kd.S_reads' HO_273001.out).2.1); (case side3 => repeat (first | exact (Kd.C_below HR0_1.out HB.out) | (with_reducible refine Kd.C_alloc ?_ _) | (with_reducible refine Kd.C_drewN ?_ _) | (with_reducible refine Kd.C_drew ?_))); (case side4 => exact HC0_1.out); rintro e w133 ⟨rfl, hb⟩; have n0_ := Aside0.mk (Kd.S_below (by (with_reducible repeat (first | apply Kd.S_alloc | apply Kd.S_drewN | apply Kd.S_drew)); exact HO_273001.out) hb); have n1_ := Aside0.mk (Kd.R_below (by (with_reducible repeat (first | apply Kd.R_alloc | apply Kd.R_drewN | apply Kd.R_drew)); exact HO_274000.out) hb); have n2_ := Aside0.mk True.intro; have n3_ := Aside0.mk True.intro; have n4_ := Aside0.mk (blk_below (g := gb259) (o := .cells #[.int .i64 a0_0, .slice A0_1 l0_1.length c0_1] 24 (0, 0)) (by (with_reducible repeat (first | refine blk_drewN ?_ _ | refine blk_drew ?_ | refine blk_alloc ?_ _)); exact BK259.out) hb); have n5_ := Aside0.mk (blk_below (g := gb260) (o := .cells #[.slice A1_0 l1_0.length c1_0, .int .i64 a1_1] 33 (0, 0)) (by (with_reducible repeat (first | refine blk_drewN ?_ _ | refine blk_drew ?_ | refine blk_alloc ?_ _)); exact BK260.out) hb); have n6_ := Aside0.mk (blk_below (g := gb272) (o := .cells #[.int .i64 t264, .slice Ao32 t265.length co32] 24 (0, 0)) (by (with_reducible repeat (first | refine blk_drewN ?_ _ | refine blk_drew ?_ | refine blk_alloc ?_ _)); exact BK272.out) hb); have n7_ := Aside0.mk (blk_below (g := gb273) (o := .cells #[u274000, .int .i64 t271] 33 (0, 0)) (by (with_reducible repeat (first | refine blk_drewN ?_ _ | refine blk_drew ?_ | refine blk_alloc ?_ _)); exact BK273.out) hb); have n8_ := Aside0.mk (blk_below (g := gb279) (o := .cells #[.int .i64 t274, .slice Ao51 t275.length co51] 24 (0, 0)) (by (with_reducible repeat (first | refine blk_drewN ?_ _ | refine blk_drew ?_ | refine blk_alloc ?_ _)); exact BK279.out) hb); have n9_ := Aside0.mk (blk_below (g := gb285) (o := .cells #[.int .i64 t280, .slice Ao63 t281.length co63] 24 (0, 0)) (by (with_reducible repeat (first | refine blk_drewN ?_ _ | refine blk_drew ?_ | refine blk_alloc ?_ _)); exact BK285.out) hb); have n10_ := Aside0.mk (below_step (by repeat (first | (with_reducible first | exact HB.out | apply below_alloc | apply pw_below_drewN | apply below_drew1 | refine below_set ?_ GE259.out | refine below_set ?_ GE260.out | refine below_set ?_ GE272.out | refine below_set ?_ GE273.out | refine below_set ?_ GE279.out | refine below_set ?_ GE285.out) | exact HB.out)) hb); clear HO_273001; clear HO_274000; clear HO_280001; clear HO_286001; clear BK259; clear BK260; clear BK272; clear BK273; clear BK279; clear BK285; clear HB; have HO_273001 := n0_; have HO_274000 := n1_; have HO_280001 := n2_; have HO_286001 := n3_; have BK259 := n4_; have BK260 := n5_; have BK272 := n6_; have BK273 := n7_; have BK279 := n8_; have BK285 := n9_; have HB := n10_; clear n0_ n1_ n2_ n3_ n4_ n5_ n6_ n7_ n8_ n9_ n10_; (try clear hb); (try clear hb2); (try clear hk); (try clear hi); have hnb134 := NB273_260.out; have hnc134 := NB260_273.out; have hnb135 := NB273_285.out; have hnc135 := NB285_273.out; have hcz136_0 : w133.cell? ⟨gb273, 0, none⟩ = some (u274000) := (blk_cell BK273.out 0).trans rfl; have hcz136_1 : w133.cell? ⟨gb273, 1, none⟩ = some (.int .i64 t271) := (blk_cell BK273.out 1).trans rfl; have hfz136_0 := blk_frozen BK273.out 0; have hfz136_1 := blk_frozen BK273.out 1; have hnb137 := NB260_285.out; have hnc137 := NB285_260.out; have hcz138_0 : w133.cell? ⟨gb260, 0, none⟩ = some (.slice A1_0 l1_0.length c1_0) := (blk_cell BK260.out 0).trans rfl; have hcz138_1 : w133.cell? ⟨gb260, 1, none⟩ = some (.int .i64 a1_1) := (blk_cell BK260.out 1).trans rfl; have hfz138_0 := blk_frozen BK260.out 0; have hfz138_1 := blk_frozen BK260.out 1; obtain ⟨Ao139, co139, eo139⟩ := Kd.R_slice HO_274000.out; subst eo139) | (go_at_call 28; (with_reducible refine (familycheckref01_SameRow.calls k3 _ _ x274000_3 t271 _ _ l1_0 a1_1 false _ ?side1 ?side2 ?side3 ?side4 A91.out).mono ?_); (case side1 => repeat (first | exact (Kd.R_reads' HO_274000.out).2.2 | (with_reducible refine Kd.C_alloc ?_ _) | (with_reducible refine Kd.C_drewN ?_ _) | (with_reducible refine Kd.C_drew ?_))); (case side2 => exact (Kd.R_reads' HO_274000.out).2.1); (case side3 => repeat (first | exact (Kd.C_below HR1_0.out HB.out) | (with_reducible refine Kd.C_alloc ?_ _) | (with_reducible refine Kd.C_drewN ?_ _) | (with_reducible refine Kd.C_drew ?_))); (case side4 => exact HC1_0.out); rintro e w140 ⟨rfl, hb⟩; have n0_ := Aside0.mk (Kd.S_below (by (with_reducible repeat (first | apply Kd.S_alloc | apply Kd.S_drewN | apply Kd.S_drew)); exact HO_273001.out) hb); have n1_ := Aside0.mk (Kd.R_below (by (with_reducible repeat (first | apply Kd.R_alloc | apply Kd.R_drewN | apply Kd.R_drew)); exact HO_274000.out) hb); have n2_ := Aside0.mk True.intro; have n3_ := Aside0.mk True.intro; have n4_ := Aside0.mk (blk_below (g := gb259) (o := .cells #[.int .i64 a0_0, .slice A0_1 l0_1.length c0_1] 24 (0, 0)) (by (with_reducible repeat (first | refine blk_drewN ?_ _ | refine blk_drew ?_ | refine blk_alloc ?_ _)); exact BK259.out) hb); have n5_ := Aside0.mk (blk_below (g := gb260) (o := .cells #[.slice A1_0 l1_0.length c1_0, .int .i64 a1_1] 33 (0, 0)) (by (with_reducible repeat (first | refine blk_drewN ?_ _ | refine blk_drew ?_ | refine blk_alloc ?_ _)); exact BK260.out) hb); have n6_ := Aside0.mk (blk_below (g := gb272) (o := .cells #[.int .i64 t264, .slice Ao32 t265.length co32] 24 (0, 0)) (by (with_reducible repeat (first | refine blk_drewN ?_ _ | refine blk_drew ?_ | refine blk_alloc ?_ _)); exact BK272.out) hb); have n7_ := Aside0.mk (blk_below (g := gb273) (o := .cells #[.slice Ao139 x274000_3.length co139, .int .i64 t271] 33 (0, 0)) (by (with_reducible repeat (first | refine blk_drewN ?_ _ | refine blk_drew ?_ | refine blk_alloc ?_ _)); exact BK273.out) hb); have n8_ := Aside0.mk (blk_below (g := gb279) (o := .cells #[.int .i64 t274, .slice Ao51 t275.length co51] 24 (0, 0)) (by (with_reducible repeat (first | refine blk_drewN ?_ _ | refine blk_drew ?_ | refine blk_alloc ?_ _)); exact BK279.out) hb); have n9_ := Aside0.mk (blk_below (g := gb285) (o := .cells #[.int .i64 t280, .slice Ao63 t281.length co63] 24 (0, 0)) (by (with_reducible repeat (first | refine blk_drewN ?_ _ | refine blk_drew ?_ | refine blk_alloc ?_ _)); exact BK285.out) hb); have n10_ := Aside0.mk (below_step (by repeat (first | (with_reducible first | exact HB.out | apply below_alloc | apply pw_below_drewN | apply below_drew1 | refine below_set ?_ GE259.out | refine below_set ?_ GE260.out | refine below_set ?_ GE272.out | refine below_set ?_ GE273.out | refine below_set ?_ GE279.out | refine below_set ?_ GE285.out) | exact HB.out)) hb); clear HO_273001; clear HO_274000; clear HO_280001; clear HO_286001; clear BK259; clear BK260; clear BK272; clear BK273; clear BK279; clear BK285; clear HB; have HO_273001 := n0_; have HO_274000 := n1_; have HO_280001 := n2_; have HO_286001 := n3_; have BK259 := n4_; have BK260 := n5_; have BK272 := n6_; have BK273 := n7_; have BK279 := n8_; have BK285 := n9_; have HB := n10_; clear n0_ n1_ n2_ n3_ n4_ n5_ n6_ n7_ n8_ n9_ n10_; (try clear hb); (try clear hb2); (try clear hk); (try clear hi)))
                        go_ret
                        exact ⟨by first | rfl | (simp [errW_none, errW_some] <;> rfl) | (simp [*, errW_none, errW_some] <;> rfl), by repeat (first | (with_reducible first | exact HB.out | apply below_alloc | apply pw_below_drewN | apply below_drew1 | refine below_set ?_ GE259.out | refine below_set ?_ GE260.out | refine below_set ?_ GE272.out | refine below_set ?_ GE273.out | refine below_set ?_ GE279.out | refine below_set ?_ GE285.out) | exact HB.out)⟩
                    · replace c90 := Bool.eq_false_iff.mpr c90
                      subst c90
                      have H1 : (some false) = some r := by rw [if_neg (show ¬ (false = true) by decide)] at H; exact H
                      clear H
                      have H := H1
                      clear H1
                      obtain rfl := Option.some.inj H
                      have hnb141 := NB279_259.out
                      have hnc141 := NB259_279.out
                      have hnb142 := NB279_260.out
                      have hnc142 := NB260_279.out
                      have hnb143 := NB279_272.out
                      have hnc143 := NB272_279.out
                      have hnb144 := NB279_273.out
                      have hnc144 := NB273_279.out
                      have hnb145 := NB279_285.out
                      have hnc145 := NB285_279.out
                      have hcz146_0 : wr.cell? ⟨gb279, 0, none⟩ = some (.int .i64 t274) := (blk_cell BK279.out 0).trans rfl
                      have hcz146_1 : wr.cell? ⟨gb279, 1, none⟩ = some (.slice Ao51 t275.length co51) := (blk_cell BK279.out 1).trans rfl
                      have hfz146_0 := blk_frozen BK279.out 0
                      have hfz146_1 := blk_frozen BK279.out 1
                      have hnb147 := NB272_259.out
                      have hnc147 := NB259_272.out
                      have hnb148 := NB272_260.out
                      have hnc148 := NB260_272.out
                      have hnb149 := NB272_273.out
                      have hnc149 := NB273_272.out
                      have hnb150 := NB272_285.out
                      have hnc150 := NB285_272.out
                      have hcz151_0 : wr.cell? ⟨gb272, 0, none⟩ = some (.int .i64 t264) := (blk_cell BK272.out 0).trans rfl
                      have hcz151_1 : wr.cell? ⟨gb272, 1, none⟩ = some (.slice Ao32 t265.length co32) := (blk_cell BK272.out 1).trans rfl
                      have hfz151_0 := blk_frozen BK272.out 0
                      have hfz151_1 := blk_frozen BK272.out 1
                      have hnb152 := NB259_260.out
                      have hnc152 := NB260_259.out
                      have hnb153 := NB259_273.out
                      have hnc153 := NB273_259.out
                      have hnb154 := NB259_285.out
                      have hnc154 := NB285_259.out
                      have hcz155_0 : wr.cell? ⟨gb259, 0, none⟩ = some (.int .i64 a0_0) := (blk_cell BK259.out 0).trans rfl
                      have hcz155_1 : wr.cell? ⟨gb259, 1, none⟩ = some (.slice A0_1 l0_1.length c0_1) := (blk_cell BK259.out 1).trans rfl
                      have hfz155_0 := blk_frozen BK259.out 0
                      have hfz155_1 := blk_frozen BK259.out 1
                      go_wp2_with (first | (go_at_call 20; (with_reducible refine (familycheckref01_SameSystem.calls k3 t264 _ _ t265 a0_0 _ _ l0_1 false _ ?side1 ?side2 ?side3 ?side4 A89.out).mono ?_); (case side1 => repeat (first | exact (Kd.S_reads' HO_273001.out).2.2 | (with_reducible refine Kd.C_alloc ?_ _) | (with_reducible refine Kd.C_drewN ?_ _) | (with_reducible refine Kd.C_drew ?_))); (case side2 => exact (Kd.S_reads' HO_273001.out).2.1); (case side3 => repeat (first | exact (Kd.C_below HR0_1.out HB.out) | (with_reducible refine Kd.C_alloc ?_ _) | (with_reducible refine Kd.C_drewN ?_ _) | (with_reducible refine Kd.C_drew ?_))); (case side4 => exact HC0_1.out); rintro e w156 ⟨rfl, hb⟩; have n0_ := Aside0.mk (Kd.S_below (by (with_reducible repeat (first | apply Kd.S_alloc | apply Kd.S_drewN | apply Kd.S_drew)); exact HO_273001.out) hb); have n1_ := Aside0.mk (Kd.R_below (by (with_reducible repeat (first | apply Kd.R_alloc | apply Kd.R_drewN | apply Kd.R_drew)); exact HO_274000.out) hb); have n2_ := Aside0.mk True.intro; have n3_ := Aside0.mk True.intro; have n4_ := Aside0.mk (blk_below (g := gb259) (o := .cells #[.int .i64 a0_0, .slice A0_1 l0_1.length c0_1] 24 (0, 0)) (by (with_reducible repeat (first | refine blk_drewN ?_ _ | refine blk_drew ?_ | refine blk_alloc ?_ _)); exact BK259.out) hb); have n5_ := Aside0.mk (blk_below (g := gb260) (o := .cells #[.slice A1_0 l1_0.length c1_0, .int .i64 a1_1] 33 (0, 0)) (by (with_reducible repeat (first | refine blk_drewN ?_ _ | refine blk_drew ?_ | refine blk_alloc ?_ _)); exact BK260.out) hb); have n6_ := Aside0.mk (blk_below (g := gb272) (o := .cells #[.int .i64 t264, .slice Ao32 t265.length co32] 24 (0, 0)) (by (with_reducible repeat (first | refine blk_drewN ?_ _ | refine blk_drew ?_ | refine blk_alloc ?_ _)); exact BK272.out) hb); have n7_ := Aside0.mk (blk_below (g := gb273) (o := .cells #[u274000, .int .i64 t271] 33 (0, 0)) (by (with_reducible repeat (first | refine blk_drewN ?_ _ | refine blk_drew ?_ | refine blk_alloc ?_ _)); exact BK273.out) hb); have n8_ := Aside0.mk (blk_below (g := gb279) (o := .cells #[.int .i64 t274, .slice Ao51 t275.length co51] 24 (0, 0)) (by (with_reducible repeat (first | refine blk_drewN ?_ _ | refine blk_drew ?_ | refine blk_alloc ?_ _)); exact BK279.out) hb); have n9_ := Aside0.mk (blk_below (g := gb285) (o := .cells #[.int .i64 t280, .slice Ao63 t281.length co63] 24 (0, 0)) (by (with_reducible repeat (first | refine blk_drewN ?_ _ | refine blk_drew ?_ | refine blk_alloc ?_ _)); exact BK285.out) hb); have n10_ := Aside0.mk (below_step (by repeat (first | (with_reducible first | exact HB.out | apply below_alloc | apply pw_below_drewN | apply below_drew1 | refine below_set ?_ GE259.out | refine below_set ?_ GE260.out | refine below_set ?_ GE272.out | refine below_set ?_ GE273.out | refine below_set ?_ GE279.out | refine below_set ?_ GE285.out) | exact HB.out)) hb); clear HO_273001; clear HO_274000; clear HO_280001; clear HO_286001; clear BK259; clear BK260; clear BK272; clear BK273; clear BK279; clear BK285; clear HB; have HO_273001 := n0_; have HO_274000 := n1_; have HO_280001 := n2_; have HO_286001 := n3_; have BK259 := n4_; have BK260 := n5_; have BK272 := n6_; have BK273 := n7_; have BK279 := n8_; have BK285 := n9_; have HB := n10_; clear n0_ n1_ n2_ n3_ n4_ n5_ n6_ n7_ n8_ n9_ n10_; (try clear hb); (try clear hb2); (try clear hk); (try clear hi)))
                      go_ret
                      exact ⟨by first | rfl | (simp [errW_none, errW_some] <;> rfl) | (simp [*, errW_none, errW_some] <;> rfl), by repeat (first | (with_reducible first | exact HB.out | apply below_alloc | apply pw_below_drewN | apply below_drew1 | refine below_set ?_ GE259.out | refine below_set ?_ GE260.out | refine below_set ?_ GE272.out | refine below_set ?_ GE273.out | refine below_set ?_ GE279.out | refine below_set ?_ GE285.out) | exact HB.out)⟩
                  · replace c88 := Bool.eq_false_iff.mpr c88
                    subst c88
                    have H1 : (some false) = some r := by rw [if_neg (show ¬ (false = true) by decide)] at H; exact H
                    clear H
                    have H := H1
                    clear H1
                    obtain rfl := Option.some.inj H
                    have hnb157 := NB279_259.out
                    have hnc157 := NB259_279.out
                    have hnb158 := NB279_260.out
                    have hnc158 := NB260_279.out
                    have hnb159 := NB279_272.out
                    have hnc159 := NB272_279.out
                    have hnb160 := NB279_273.out
                    have hnc160 := NB273_279.out
                    have hnb161 := NB279_285.out
                    have hnc161 := NB285_279.out
                    have hcz162_0 : wr.cell? ⟨gb279, 0, none⟩ = some (.int .i64 t274) := (blk_cell BK279.out 0).trans rfl
                    have hcz162_1 : wr.cell? ⟨gb279, 1, none⟩ = some (.slice Ao51 t275.length co51) := (blk_cell BK279.out 1).trans rfl
                    have hfz162_0 := blk_frozen BK279.out 0
                    have hfz162_1 := blk_frozen BK279.out 1
                    go_wp2
                    go_ret
                    exact ⟨by first | rfl | (simp [errW_none, errW_some] <;> rfl) | (simp [*, errW_none, errW_some] <;> rfl), by repeat (first | (with_reducible first | exact HB.out | apply below_alloc | apply pw_below_drewN | apply below_drew1 | refine below_set ?_ GE259.out | refine below_set ?_ GE260.out | refine below_set ?_ GE272.out | refine below_set ?_ GE273.out | refine below_set ?_ GE279.out | refine below_set ?_ GE285.out) | exact HB.out)⟩

end Go.Proofs.YtbioiodjdfcooaaDoor.P
