import Derived.Test.YtbioiodjdfcooabDoorVAPx0
import Derived.Test.YtbioiodjdfcooabDoorVAPx1
import Derived.Test.YtbioiodjdfcooabDoorVAPx7
import Derived.Test.YtbioiodjdfcooabDoorVAPx12
-- Written by a program of this session (wip/tools/doprint.sh: the kit's print, with given texts for some functions).
namespace Go.Proofs.YtbioiodjdfcooabDoor.P
open Go.RowKit Go.Proofs.YtbioiodjdfcooabDoorW.PrintWords Go.Proofs.YtbioiodjdfcooabDoorW.PrintLast Go.Proofs.YtbioiodjdfcooabDoorW.PrintMore
attribute [local go_sem] max2_int min2_int max_two min_two max_three min_three max_four min_four   -- for this text's walks alone
set_option linter.unusedVariables false
set_option linter.unusedSimpArgs false

/-! ### familychecklaw01_LinearCompares: function 4 -/
mutual
def familychecklaw01_LinearCompares.j0 : Nat → Bool → List Int → Int → List Int → Int → List Int → Int → Option (Bool)
  | 0, _, _, _, _, _, _, _ => none
  | k + 1, x19, x221000, x221001, x222000, x222001, x223000, x223001 => if x19 = true then ((familychecklaw01_known.f k).bind fun t226 => (some t226)) else ((linear_Compare.f k x221000 x221001 x222000 x222001).bind fun t227 => ((linear_Compare.f k x222000 x222001 x223000 x223001).bind fun t228 => ((linear_Compare.f k x221000 x221001 x223000 x223001).bind fun t229 => ((familycheckref01_Compare.f k x221000 x221001 x222000 x222001).bind fun t230 => (if t227 = t230 then ((linear_Compare.f k x222000 x222001 x221000 x221001).bind fun t231 => (if t231 = (wrap64 (-t227)) then ((linear_Compare.f k x221000 x221001 x221000 x221001).bind fun t232 => (familychecklaw01_LinearCompares.j1 k t227 t228 t229 (t232 != 0) x221000 x221001 x222000 x222001)) else (familychecklaw01_LinearCompares.j1 k t227 t228 t229 true x221000 x221001 x222000 x222001))) else (familychecklaw01_LinearCompares.j1 k t227 t228 t229 true x221000 x221001 x222000 x222001))))))
def familychecklaw01_LinearCompares.j1 : Nat → Int → Int → Int → Bool → List Int → Int → List Int → Int → Option (Bool)
  | 0, _, _, _, _, _, _, _, _ => none
  | k + 1, x7, x8, x9, x48, x221000, x221001, x222000, x222001 => if x48 = true then (some false) else (if x7 > 0 then (if x7 = 0 then ((familycheckref01_SameRow.f k x221000 x221001 x222000 x222001).bind fun t233 => (if t233 = true then ((familychecklaw01_known.f k).bind fun t234 => (some t234)) else (some false))) else ((familychecklaw01_known.f k).bind fun t235 => (some t235))) else (if x8 > 0 then (if x7 = 0 then ((familycheckref01_SameRow.f k x221000 x221001 x222000 x222001).bind fun t236 => (if t236 = true then ((familychecklaw01_known.f k).bind fun t237 => (some t237)) else (some false))) else ((familychecklaw01_known.f k).bind fun t238 => (some t238))) else (if x9 ≤ 0 then (if x7 = 0 then ((familycheckref01_SameRow.f k x221000 x221001 x222000 x222001).bind fun t239 => (if t239 = true then ((familychecklaw01_known.f k).bind fun t240 => (some t240)) else (some false))) else ((familychecklaw01_known.f k).bind fun t241 => (some t241))) else (some false))))
end
def familychecklaw01_LinearCompares.f (k : Nat) (l0_0 : List Int) (a0_1 : Int) (l1_0 : List Int) (a1_1 : Int) (l2_0 : List Int) (a2_1 : Int) : Option (Bool) := (familychecklaw01_long.f l0_0 a0_1).bind fun t223 => (if t223 = true then (familychecklaw01_LinearCompares.j0 k true l0_0 a0_1 l1_0 a1_1 l2_0 a2_1) else ((familychecklaw01_long.f l1_0 a1_1).bind fun t224 => (if t224 = true then (familychecklaw01_LinearCompares.j0 k true l0_0 a0_1 l1_0 a1_1 l2_0 a2_1) else ((familychecklaw01_long.f l2_0 a2_1).bind fun t225 => (familychecklaw01_LinearCompares.j0 k t225 l0_0 a0_1 l1_0 a1_1 l2_0 a2_1)))))
def familychecklaw01_LinearCompares.T3 : Bool × List (List Nat × List Nat) := (true, [([], []), ([], []), ([0, 1], [0, 1]), ([], []), ([], []), ([3, 4, 2], [3, 4]), ([], []), ([], []), ([6, 7, 5], [6, 7]), ([2, 8, 0, 1, 2], [2]), ([5, 9, 0, 1, 2, 3, 4, 5, 9], [5]), ([8, 10, 0, 1, 2, 3, 4, 5, 6, 7, 8, 9, 10], [8])])
def familychecklaw01_LinearCompares.B3 : List Nat := [0, 0, 3, 0, 0, 31, 0, 0, 255, 511, 1023, 2047]
theorem familychecklaw01_LinearCompares.tab3 : rtab .any (opsOf Tryd.f4 3) = familychecklaw01_LinearCompares.T3 := by kernel_rfl
theorem familychecklaw01_LinearCompares.bits3 : waitsOk familychecklaw01_LinearCompares.T3.2 familychecklaw01_LinearCompares.B3 = true := by kernel_rfl
set_option maxHeartbeats 8000000 in
set_option maxRecDepth 100000 in
theorem familychecklaw01_LinearCompares.calls (k : Nat) (A0_0 : Option Addr) (c0_0 : Nat) (l0_0 : List Int) (a0_1 : Int) (A1_0 : Option Addr) (c1_0 : Nat) (l1_0 : List Int) (a1_1 : Int) (A2_0 : Option Addr) (c2_0 : Nat) (l2_0 : List Int) (a2_1 : Int) (r : Bool) (w : World) (hr0_0 : Kd.C (Kd.int .i64) w A0_0 l0_0.length l0_0) (hc0_0 : l0_0.length ≤ c0_0) (hr1_0 : Kd.C (Kd.int .i64) w A1_0 l1_0.length l1_0) (hc1_0 : l1_0.length ≤ c1_0) (hr2_0 : Kd.C (Kd.int .i64) w A2_0 l2_0.length l2_0) (hc2_0 : l2_0.length ≤ c2_0) (h : familychecklaw01_LinearCompares.f k l0_0 a0_1 l1_0 a1_1 l2_0 a2_1 = some r) :
    Calls Tryd.prog 4 #[.agg #[.slice A0_0 l0_0.length c0_0, .int .i64 a0_1], .agg #[.slice A1_0 l1_0.length c1_0, .int .i64 a1_1], .agg #[.slice A2_0 l2_0.length c2_0, .int .i64 a2_1]] w fun e w' => e = .returned (.bool r) ∧ Below w.heap.size w w' := by
  have hu35 := Tryd.underlying35
  have HR0_0 := Aside0.mk hr0_0
  have HC0_0 := Aside0.mk hc0_0
  clear hr0_0 hc0_0
  have HR1_0 := Aside0.mk hr1_0
  have HC1_0 := Aside0.mk hc1_0
  clear hr1_0 hc1_0
  have HR2_0 := Aside0.mk hr2_0
  have HC2_0 := Aside0.mk hc2_0
  clear hr2_0 hc2_0
  have HB := Aside0.mk (Below.refl w.heap.size w)
  have H : ((familychecklaw01_long.f l0_0 a0_1).bind fun t223 => (if t223 = true then (familychecklaw01_LinearCompares.j0 k true l0_0 a0_1 l1_0 a1_1 l2_0 a2_1) else ((familychecklaw01_long.f l1_0 a1_1).bind fun t224 => (if t224 = true then (familychecklaw01_LinearCompares.j0 k true l0_0 a0_1 l1_0 a1_1 l2_0 a2_1) else ((familychecklaw01_long.f l2_0 a2_1).bind fun t225 => (familychecklaw01_LinearCompares.j0 k t225 l0_0 a0_1 l1_0 a1_1 l2_0 a2_1)))))) = some r := h
  clear h
  have HC4 := Aside0.mk H
  clear H
  go_enter Tryd.func4, Tryd.ntmps4
  go_upto_region 1 with (first | ((with_reducible refine gate_dst (N := 3) rfl ?_); refine box_event ?hg (N := 3) ?hd (cs := #[.slice A0_0 l0_0.length c0_0, .int .i64 a0_1]) (t := 35) ?hr ?_; (case hd => rfl); (case hg => rfl); (case hr => first | (go_simp; done) | (go_simp; rfl)); intro gb220 hg w5 hbox hb; have n0_ := Aside0.mk (below_step (by repeat (first | (with_reducible first | exact HB.out | apply below_alloc | apply pw_below_drewN | apply below_drew1) | exact HB.out)) hb); have n1_ := Aside0.mk (hbox); have n2_ := Aside0.mk ((by rw [hg]; exact (below_size (by repeat (first | (with_reducible first | exact HB.out | apply below_alloc | apply pw_below_drewN | apply below_drew1) | exact HB.out))) : w.heap.size ≤ gb220)); have n3_ := Aside0.mk ((by rw [hg]; exact (below_size (by repeat (first | (with_reducible first | exact HB.out | apply below_alloc | apply pw_below_drewN | apply below_drew1) | exact HB.out))) : w.heap.size ≤ gb220)); clear HB; have HB := n0_; have BK220 := n1_; have GW220 := n2_; have GE220 := n3_; clear n0_ n1_ n2_ n3_; clear hb hbox hg) | ((with_reducible refine gate_dst (N := 4) rfl ?_); refine box_event ?hg (N := 4) ?hd (cs := #[.slice A1_0 l1_0.length c1_0, .int .i64 a1_1]) (t := 35) ?hr ?_; (case hd => rfl); (case hg => rfl); (case hr => first | (go_simp; done) | (go_simp; rfl)); intro gb221 hg w6 hbox hb; have n0_ := Aside0.mk (blk_below (g := gb220) (o := .cells #[.slice A0_0 l0_0.length c0_0, .int .i64 a0_1] 35 (0, 0)) (by (with_reducible repeat (first | refine blk_drewN ?_ _ | refine blk_drew ?_ | refine blk_alloc ?_ _)); exact BK220.out) hb); have n1_ := Aside0.mk (below_step (by repeat (first | (with_reducible first | exact HB.out | apply below_alloc | apply pw_below_drewN | apply below_drew1 | refine below_set ?_ GE220.out) | exact HB.out)) hb); have n2_ := Aside0.mk (hbox); have n3_ := Aside0.mk ((by rw [hg]; exact (below_size (by repeat (first | (with_reducible first | exact HB.out | apply below_alloc | apply pw_below_drewN | apply below_drew1 | refine below_set ?_ GE220.out) | exact HB.out))) : w.heap.size ≤ gb221)); have n4_ := Aside0.mk ((by rw [hg]; exact (below_size (by repeat (first | (with_reducible first | exact HB.out | apply below_alloc | apply pw_below_drewN | apply below_drew1 | refine below_set ?_ GE220.out) | exact HB.out))) : w.heap.size ≤ gb221)); have n5_ := Aside0.mk ((by rw [hg]; exact Nat.ne_of_lt (blk_lt (g := gb220) (o := .cells #[.slice A0_0 l0_0.length c0_0, .int .i64 a0_1] 35 (0, 0)) (by (with_reducible repeat (first | refine blk_drewN ?_ _ | refine blk_drew ?_ | refine blk_alloc ?_ _)); exact BK220.out)) : gb220 ≠ gb221)); have n6_ := Aside0.mk ((by rw [hg]; exact Nat.ne_of_gt (blk_lt (g := gb220) (o := .cells #[.slice A0_0 l0_0.length c0_0, .int .i64 a0_1] 35 (0, 0)) (by (with_reducible repeat (first | refine blk_drewN ?_ _ | refine blk_drew ?_ | refine blk_alloc ?_ _)); exact BK220.out)) : gb221 ≠ gb220)); clear BK220; clear HB; have BK220 := n0_; have HB := n1_; have BK221 := n2_; have GW221 := n3_; have GE221 := n4_; have NB220_221 := n5_; have NB221_220 := n6_; clear n0_ n1_ n2_ n3_ n4_ n5_ n6_; clear hb hbox hg) | ((with_reducible refine gate_dst (N := 5) rfl ?_); refine box_event ?hg (N := 5) ?hd (cs := #[.slice A2_0 l2_0.length c2_0, .int .i64 a2_1]) (t := 35) ?hr ?_; (case hd => rfl); (case hg => rfl); (case hr => first | (go_simp; done) | (go_simp; rfl)); intro gb222 hg w7 hbox hb; have n0_ := Aside0.mk (blk_below (g := gb220) (o := .cells #[.slice A0_0 l0_0.length c0_0, .int .i64 a0_1] 35 (0, 0)) (by (with_reducible repeat (first | refine blk_drewN ?_ _ | refine blk_drew ?_ | refine blk_alloc ?_ _)); exact BK220.out) hb); have n1_ := Aside0.mk (blk_below (g := gb221) (o := .cells #[.slice A1_0 l1_0.length c1_0, .int .i64 a1_1] 35 (0, 0)) (by (with_reducible repeat (first | refine blk_drewN ?_ _ | refine blk_drew ?_ | refine blk_alloc ?_ _)); exact BK221.out) hb); have n2_ := Aside0.mk (below_step (by repeat (first | (with_reducible first | exact HB.out | apply below_alloc | apply pw_below_drewN | apply below_drew1 | refine below_set ?_ GE220.out | refine below_set ?_ GE221.out) | exact HB.out)) hb); have n3_ := Aside0.mk (hbox); have n4_ := Aside0.mk ((by rw [hg]; exact (below_size (by repeat (first | (with_reducible first | exact HB.out | apply below_alloc | apply pw_below_drewN | apply below_drew1 | refine below_set ?_ GE220.out | refine below_set ?_ GE221.out) | exact HB.out))) : w.heap.size ≤ gb222)); have n5_ := Aside0.mk ((by rw [hg]; exact (below_size (by repeat (first | (with_reducible first | exact HB.out | apply below_alloc | apply pw_below_drewN | apply below_drew1 | refine below_set ?_ GE220.out | refine below_set ?_ GE221.out) | exact HB.out))) : w.heap.size ≤ gb222)); have n6_ := Aside0.mk ((by rw [hg]; exact Nat.ne_of_lt (blk_lt (g := gb220) (o := .cells #[.slice A0_0 l0_0.length c0_0, .int .i64 a0_1] 35 (0, 0)) (by (with_reducible repeat (first | refine blk_drewN ?_ _ | refine blk_drew ?_ | refine blk_alloc ?_ _)); exact BK220.out)) : gb220 ≠ gb222)); have n7_ := Aside0.mk ((by rw [hg]; exact Nat.ne_of_gt (blk_lt (g := gb220) (o := .cells #[.slice A0_0 l0_0.length c0_0, .int .i64 a0_1] 35 (0, 0)) (by (with_reducible repeat (first | refine blk_drewN ?_ _ | refine blk_drew ?_ | refine blk_alloc ?_ _)); exact BK220.out)) : gb222 ≠ gb220)); have n8_ := Aside0.mk ((by rw [hg]; exact Nat.ne_of_lt (blk_lt (g := gb221) (o := .cells #[.slice A1_0 l1_0.length c1_0, .int .i64 a1_1] 35 (0, 0)) (by (with_reducible repeat (first | refine blk_drewN ?_ _ | refine blk_drew ?_ | refine blk_alloc ?_ _)); exact BK221.out)) : gb221 ≠ gb222)); have n9_ := Aside0.mk ((by rw [hg]; exact Nat.ne_of_gt (blk_lt (g := gb221) (o := .cells #[.slice A1_0 l1_0.length c1_0, .int .i64 a1_1] 35 (0, 0)) (by (with_reducible repeat (first | refine blk_drewN ?_ _ | refine blk_drew ?_ | refine blk_alloc ?_ _)); exact BK221.out)) : gb222 ≠ gb221)); clear BK220; clear BK221; clear HB; have BK220 := n0_; have BK221 := n1_; have HB := n2_; have BK222 := n3_; have GW222 := n4_; have GE222 := n5_; have NB220_222 := n6_; have NB222_220 := n7_; have NB221_222 := n8_; have NB222_221 := n9_; clear n0_ n1_ n2_ n3_ n4_ n5_ n6_ n7_ n8_ n9_; clear hb hbox hg))
  (try simp only [Act.put, List.setIfInBounds_toArray, List.set_cons_zero, List.set_cons_succ])
  go_cut [19] (fun v19 wc => ∃ (kq : Nat) (x19_3 : Bool), v19 = .bool x19_3 ∧ Aside0 (familychecklaw01_LinearCompares.j0 kq x19_3 l0_0 a0_1 l1_0 a1_1 l2_0 a2_1 = some r) ∧ Aside0 (kq ≤ k) ∧ Aside0 (wc.heap[gb220]? = some (.cells #[(.slice A0_0 l0_0.length c0_0), .int .i64 a0_1] 35 (0, 0))) ∧ Aside0 (wc.heap[gb221]? = some (.cells #[(.slice A1_0 l1_0.length c1_0), .int .i64 a1_1] 35 (0, 0))) ∧ Aside0 (wc.heap[gb222]? = some (.cells #[(.slice A2_0 l2_0.length c2_0), .int .i64 a2_1] 35 (0, 0))) ∧ Aside0 (Below w.heap.size w wc))
  case first =>
    have H := HC4.out
    clear HC4
    replace H := Option.bind_eq_some_iff.mp H
    obtain ⟨t223, A80, H⟩ := H
    replace H : (if t223 = true then (familychecklaw01_LinearCompares.j0 k true l0_0 a0_1 l1_0 a1_1 l2_0 a2_1) else ((familychecklaw01_long.f l1_0 a1_1).bind fun t224 => (if t224 = true then (familychecklaw01_LinearCompares.j0 k true l0_0 a0_1 l1_0 a1_1 l2_0 a2_1) else ((familychecklaw01_long.f l2_0 a2_1).bind fun t225 => (familychecklaw01_LinearCompares.j0 k t225 l0_0 a0_1 l1_0 a1_1 l2_0 a2_1))))) = some r := H
    have A8 := Aside0.mk A80
    clear A80
    by_cases c9 : t223 = true
    · subst c9
      have H1 : (familychecklaw01_LinearCompares.j0 k true l0_0 a0_1 l1_0 a1_1 l2_0 a2_1) = some r := by rw [if_pos rfl] at H; exact H
      clear H
      have H := H1
      clear H1
      have H' := Aside0.mk H
      clear H
      have hnb10 := NB220_221.out
      have hnc10 := NB221_220.out
      have hnb11 := NB220_222.out
      have hnc11 := NB222_220.out
      have hcz12_0 : w7.cell? ⟨gb220, 0, none⟩ = some (.slice A0_0 l0_0.length c0_0) := (blk_cell BK220.out 0).trans rfl
      have hcz12_1 : w7.cell? ⟨gb220, 1, none⟩ = some (.int .i64 a0_1) := (blk_cell BK220.out 1).trans rfl
      have hfz12_0 := blk_frozen BK220.out 0
      have hfz12_1 := blk_frozen BK220.out 1
      go_wp2_with (first | ((with_reducible refine gate_callee (f := 15) rfl ?_); refine goesL_ (some 11) rfl rfl Tryd.func15 (by kernel_rfl) rfl #[.agg #[.slice A0_0 l0_0.length c0_0, .int .i64 a0_1]] rfl (by (try simp only [List.map_toArray, List.map_cons, List.map_nil]); first | done | rfl | (simp only [List.length_drop, List.length_take]; rfl)) ?_; (with_reducible refine (familychecklaw01_long.calls _ _ l0_0 a0_1 true _ ?side1 ?side2 A8.out).mono ?_); (case side1 => repeat (first | exact (Kd.C_below HR0_0.out HB.out) | (with_reducible refine Kd.C_alloc ?_ _) | (with_reducible refine Kd.C_drewN ?_ _) | (with_reducible refine Kd.C_drew ?_))); (case side2 => exact HC0_0.out); rintro e w13 ⟨rfl, hb⟩; refine ⟨_, rfl, ?_⟩; have n0_ := Aside0.mk (blk_below (g := gb220) (o := .cells #[.slice A0_0 l0_0.length c0_0, .int .i64 a0_1] 35 (0, 0)) (by (with_reducible repeat (first | refine blk_drewN ?_ _ | refine blk_drew ?_ | refine blk_alloc ?_ _)); exact BK220.out) hb); have n1_ := Aside0.mk (blk_below (g := gb221) (o := .cells #[.slice A1_0 l1_0.length c1_0, .int .i64 a1_1] 35 (0, 0)) (by (with_reducible repeat (first | refine blk_drewN ?_ _ | refine blk_drew ?_ | refine blk_alloc ?_ _)); exact BK221.out) hb); have n2_ := Aside0.mk (blk_below (g := gb222) (o := .cells #[.slice A2_0 l2_0.length c2_0, .int .i64 a2_1] 35 (0, 0)) (by (with_reducible repeat (first | refine blk_drewN ?_ _ | refine blk_drew ?_ | refine blk_alloc ?_ _)); exact BK222.out) hb); have n3_ := Aside0.mk (below_step (by repeat (first | (with_reducible first | exact HB.out | apply below_alloc | apply pw_below_drewN | apply below_drew1 | refine below_set ?_ GE220.out | refine below_set ?_ GE221.out | refine below_set ?_ GE222.out) | exact HB.out)) hb); clear BK220; clear BK221; clear BK222; clear HB; have BK220 := n0_; have BK221 := n1_; have BK222 := n2_; have HB := n3_; clear n0_ n1_ n2_ n3_; (try clear hb); (try clear hb2); (try clear hk); (try clear hi)))
      go_meet
      case rel => exact ⟨_, (true), (by first | rfl | (simp; done) | (simp [*]; done)), H', ⟨by first | omega | exact Nat.le_refl _⟩, ⟨by (with_reducible repeat (first | refine blk_drewN ?_ _ | refine blk_drew ?_ | refine blk_alloc ?_ _)); exact BK220.out⟩, ⟨by (with_reducible repeat (first | refine blk_drewN ?_ _ | refine blk_drew ?_ | refine blk_alloc ?_ _)); exact BK221.out⟩, ⟨by (with_reducible repeat (first | refine blk_drewN ?_ _ | refine blk_drew ?_ | refine blk_alloc ?_ _)); exact BK222.out⟩, ⟨by repeat (first | (with_reducible first | exact HB.out | apply below_alloc | apply pw_below_drewN | apply below_drew1 | refine below_set ?_ GE220.out | refine below_set ?_ GE221.out | refine below_set ?_ GE222.out) | exact HB.out)⟩⟩
    · replace c9 := Bool.eq_false_iff.mpr c9
      subst c9
      have H1 : ((familychecklaw01_long.f l1_0 a1_1).bind fun t224 => (if t224 = true then (familychecklaw01_LinearCompares.j0 k true l0_0 a0_1 l1_0 a1_1 l2_0 a2_1) else ((familychecklaw01_long.f l2_0 a2_1).bind fun t225 => (familychecklaw01_LinearCompares.j0 k t225 l0_0 a0_1 l1_0 a1_1 l2_0 a2_1)))) = some r := by rw [if_neg (show ¬ (false = true) by decide)] at H; exact H
      clear H
      have H := H1
      clear H1
      replace H := Option.bind_eq_some_iff.mp H
      obtain ⟨t224, A140, H⟩ := H
      replace H : (if t224 = true then (familychecklaw01_LinearCompares.j0 k true l0_0 a0_1 l1_0 a1_1 l2_0 a2_1) else ((familychecklaw01_long.f l2_0 a2_1).bind fun t225 => (familychecklaw01_LinearCompares.j0 k t225 l0_0 a0_1 l1_0 a1_1 l2_0 a2_1))) = some r := H
      have A14 := Aside0.mk A140
      clear A140
      by_cases c15 : t224 = true
      · subst c15
        have H1 : (familychecklaw01_LinearCompares.j0 k true l0_0 a0_1 l1_0 a1_1 l2_0 a2_1) = some r := by rw [if_pos rfl] at H; exact H
        clear H
        have H := H1
        clear H1
        have H' := Aside0.mk H
        clear H
        have hnb16 := NB220_221.out
        have hnc16 := NB221_220.out
        have hnb17 := NB220_222.out
        have hnc17 := NB222_220.out
        have hcz18_0 : w7.cell? ⟨gb220, 0, none⟩ = some (.slice A0_0 l0_0.length c0_0) := (blk_cell BK220.out 0).trans rfl
        have hcz18_1 : w7.cell? ⟨gb220, 1, none⟩ = some (.int .i64 a0_1) := (blk_cell BK220.out 1).trans rfl
        have hfz18_0 := blk_frozen BK220.out 0
        have hfz18_1 := blk_frozen BK220.out 1
        go_wp2_with (first | ((with_reducible refine gate_callee (f := 15) rfl ?_); refine goesL_ (some 11) rfl rfl Tryd.func15 (by kernel_rfl) rfl #[.agg #[.slice A0_0 l0_0.length c0_0, .int .i64 a0_1]] rfl (by (try simp only [List.map_toArray, List.map_cons, List.map_nil]); first | done | rfl | (simp only [List.length_drop, List.length_take]; rfl)) ?_; (with_reducible refine (familychecklaw01_long.calls _ _ l0_0 a0_1 false _ ?side1 ?side2 A8.out).mono ?_); (case side1 => repeat (first | exact (Kd.C_below HR0_0.out HB.out) | (with_reducible refine Kd.C_alloc ?_ _) | (with_reducible refine Kd.C_drewN ?_ _) | (with_reducible refine Kd.C_drew ?_))); (case side2 => exact HC0_0.out); rintro e w19 ⟨rfl, hb⟩; refine ⟨_, rfl, ?_⟩; have n0_ := Aside0.mk (blk_below (g := gb220) (o := .cells #[.slice A0_0 l0_0.length c0_0, .int .i64 a0_1] 35 (0, 0)) (by (with_reducible repeat (first | refine blk_drewN ?_ _ | refine blk_drew ?_ | refine blk_alloc ?_ _)); exact BK220.out) hb); have n1_ := Aside0.mk (blk_below (g := gb221) (o := .cells #[.slice A1_0 l1_0.length c1_0, .int .i64 a1_1] 35 (0, 0)) (by (with_reducible repeat (first | refine blk_drewN ?_ _ | refine blk_drew ?_ | refine blk_alloc ?_ _)); exact BK221.out) hb); have n2_ := Aside0.mk (blk_below (g := gb222) (o := .cells #[.slice A2_0 l2_0.length c2_0, .int .i64 a2_1] 35 (0, 0)) (by (with_reducible repeat (first | refine blk_drewN ?_ _ | refine blk_drew ?_ | refine blk_alloc ?_ _)); exact BK222.out) hb); have n3_ := Aside0.mk (below_step (by repeat (first | (with_reducible first | exact HB.out | apply below_alloc | apply pw_below_drewN | apply below_drew1 | refine below_set ?_ GE220.out | refine below_set ?_ GE221.out | refine below_set ?_ GE222.out) | exact HB.out)) hb); clear BK220; clear BK221; clear BK222; clear HB; have BK220 := n0_; have BK221 := n1_; have BK222 := n2_; have HB := n3_; clear n0_ n1_ n2_ n3_; (try clear hb); (try clear hb2); (try clear hk); (try clear hi); have hnb20 := NB221_222.out; have hnc20 := NB222_221.out; have hcz21_0 : w19.cell? ⟨gb221, 0, none⟩ = some (.slice A1_0 l1_0.length c1_0) := (blk_cell BK221.out 0).trans rfl; have hcz21_1 : w19.cell? ⟨gb221, 1, none⟩ = some (.int .i64 a1_1) := (blk_cell BK221.out 1).trans rfl; have hfz21_0 := blk_frozen BK221.out 0; have hfz21_1 := blk_frozen BK221.out 1) | (go_at_call 15; (with_reducible refine (familychecklaw01_long.calls _ _ l1_0 a1_1 true _ ?side1 ?side2 A14.out).mono ?_); (case side1 => repeat (first | exact (Kd.C_below HR1_0.out HB.out) | (with_reducible refine Kd.C_alloc ?_ _) | (with_reducible refine Kd.C_drewN ?_ _) | (with_reducible refine Kd.C_drew ?_))); (case side2 => exact HC1_0.out); rintro e w22 ⟨rfl, hb⟩; have n0_ := Aside0.mk (blk_below (g := gb220) (o := .cells #[.slice A0_0 l0_0.length c0_0, .int .i64 a0_1] 35 (0, 0)) (by (with_reducible repeat (first | refine blk_drewN ?_ _ | refine blk_drew ?_ | refine blk_alloc ?_ _)); exact BK220.out) hb); have n1_ := Aside0.mk (blk_below (g := gb221) (o := .cells #[.slice A1_0 l1_0.length c1_0, .int .i64 a1_1] 35 (0, 0)) (by (with_reducible repeat (first | refine blk_drewN ?_ _ | refine blk_drew ?_ | refine blk_alloc ?_ _)); exact BK221.out) hb); have n2_ := Aside0.mk (blk_below (g := gb222) (o := .cells #[.slice A2_0 l2_0.length c2_0, .int .i64 a2_1] 35 (0, 0)) (by (with_reducible repeat (first | refine blk_drewN ?_ _ | refine blk_drew ?_ | refine blk_alloc ?_ _)); exact BK222.out) hb); have n3_ := Aside0.mk (below_step (by repeat (first | (with_reducible first | exact HB.out | apply below_alloc | apply pw_below_drewN | apply below_drew1 | refine below_set ?_ GE220.out | refine below_set ?_ GE221.out | refine below_set ?_ GE222.out) | exact HB.out)) hb); clear BK220; clear BK221; clear BK222; clear HB; have BK220 := n0_; have BK221 := n1_; have BK222 := n2_; have HB := n3_; clear n0_ n1_ n2_ n3_; (try clear hb); (try clear hb2); (try clear hk); (try clear hi)))
        go_meet
        case rel => exact ⟨_, (true), (by first | rfl | (simp; done) | (simp [*]; done)), H', ⟨by first | omega | exact Nat.le_refl _⟩, ⟨by (with_reducible repeat (first | refine blk_drewN ?_ _ | refine blk_drew ?_ | refine blk_alloc ?_ _)); exact BK220.out⟩, ⟨by (with_reducible repeat (first | refine blk_drewN ?_ _ | refine blk_drew ?_ | refine blk_alloc ?_ _)); exact BK221.out⟩, ⟨by (with_reducible repeat (first | refine blk_drewN ?_ _ | refine blk_drew ?_ | refine blk_alloc ?_ _)); exact BK222.out⟩, ⟨by repeat (first | (with_reducible first | exact HB.out | apply below_alloc | apply pw_below_drewN | apply below_drew1 | refine below_set ?_ GE220.out | refine below_set ?_ GE221.out | refine below_set ?_ GE222.out) | exact HB.out)⟩⟩
      · replace c15 := Bool.eq_false_iff.mpr c15
        subst c15
        have H1 : ((familychecklaw01_long.f l2_0 a2_1).bind fun t225 => (familychecklaw01_LinearCompares.j0 k t225 l0_0 a0_1 l1_0 a1_1 l2_0 a2_1)) = some r := by rw [if_neg (show ¬ (false = true) by decide)] at H; exact H
        clear H
        have H := H1
        clear H1
        replace H := Option.bind_eq_some_iff.mp H
        obtain ⟨t225, A230, H⟩ := H
        replace H : (familychecklaw01_LinearCompares.j0 k t225 l0_0 a0_1 l1_0 a1_1 l2_0 a2_1) = some r := H
        have A23 := Aside0.mk A230
        clear A230
        have H' := Aside0.mk H
        clear H
        have hnb24 := NB220_221.out
        have hnc24 := NB221_220.out
        have hnb25 := NB220_222.out
        have hnc25 := NB222_220.out
        have hcz26_0 : w7.cell? ⟨gb220, 0, none⟩ = some (.slice A0_0 l0_0.length c0_0) := (blk_cell BK220.out 0).trans rfl
        have hcz26_1 : w7.cell? ⟨gb220, 1, none⟩ = some (.int .i64 a0_1) := (blk_cell BK220.out 1).trans rfl
        have hfz26_0 := blk_frozen BK220.out 0
        have hfz26_1 := blk_frozen BK220.out 1
        go_wp2_with (first | ((with_reducible refine gate_callee (f := 15) rfl ?_); refine goesL_ (some 11) rfl rfl Tryd.func15 (by kernel_rfl) rfl #[.agg #[.slice A0_0 l0_0.length c0_0, .int .i64 a0_1]] rfl (by (try simp only [List.map_toArray, List.map_cons, List.map_nil]); first | done | rfl | (simp only [List.length_drop, List.length_take]; rfl)) ?_; (with_reducible refine (familychecklaw01_long.calls _ _ l0_0 a0_1 false _ ?side1 ?side2 A8.out).mono ?_); (case side1 => repeat (first | exact (Kd.C_below HR0_0.out HB.out) | (with_reducible refine Kd.C_alloc ?_ _) | (with_reducible refine Kd.C_drewN ?_ _) | (with_reducible refine Kd.C_drew ?_))); (case side2 => exact HC0_0.out); rintro e w27 ⟨rfl, hb⟩; refine ⟨_, rfl, ?_⟩; have n0_ := Aside0.mk (blk_below (g := gb220) (o := .cells #[.slice A0_0 l0_0.length c0_0, .int .i64 a0_1] 35 (0, 0)) (by (with_reducible repeat (first | refine blk_drewN ?_ _ | refine blk_drew ?_ | refine blk_alloc ?_ _)); exact BK220.out) hb); have n1_ := Aside0.mk (blk_below (g := gb221) (o := .cells #[.slice A1_0 l1_0.length c1_0, .int .i64 a1_1] 35 (0, 0)) (by (with_reducible repeat (first | refine blk_drewN ?_ _ | refine blk_drew ?_ | refine blk_alloc ?_ _)); exact BK221.out) hb); have n2_ := Aside0.mk (blk_below (g := gb222) (o := .cells #[.slice A2_0 l2_0.length c2_0, .int .i64 a2_1] 35 (0, 0)) (by (with_reducible repeat (first | refine blk_drewN ?_ _ | refine blk_drew ?_ | refine blk_alloc ?_ _)); exact BK222.out) hb); have n3_ := Aside0.mk (below_step (by repeat (first | (with_reducible first | exact HB.out | apply below_alloc | apply pw_below_drewN | apply below_drew1 | refine below_set ?_ GE220.out | refine below_set ?_ GE221.out | refine below_set ?_ GE222.out) | exact HB.out)) hb); clear BK220; clear BK221; clear BK222; clear HB; have BK220 := n0_; have BK221 := n1_; have BK222 := n2_; have HB := n3_; clear n0_ n1_ n2_ n3_; (try clear hb); (try clear hb2); (try clear hk); (try clear hi); have hnb28 := NB221_222.out; have hnc28 := NB222_221.out; have hcz29_0 : w27.cell? ⟨gb221, 0, none⟩ = some (.slice A1_0 l1_0.length c1_0) := (blk_cell BK221.out 0).trans rfl; have hcz29_1 : w27.cell? ⟨gb221, 1, none⟩ = some (.int .i64 a1_1) := (blk_cell BK221.out 1).trans rfl; have hfz29_0 := blk_frozen BK221.out 0; have hfz29_1 := blk_frozen BK221.out 1) | (go_at_call 15; (with_reducible refine (familychecklaw01_long.calls _ _ l1_0 a1_1 false _ ?side1 ?side2 A14.out).mono ?_); (case side1 => repeat (first | exact (Kd.C_below HR1_0.out HB.out) | (with_reducible refine Kd.C_alloc ?_ _) | (with_reducible refine Kd.C_drewN ?_ _) | (with_reducible refine Kd.C_drew ?_))); (case side2 => exact HC1_0.out); rintro e w30 ⟨rfl, hb⟩; have n0_ := Aside0.mk (blk_below (g := gb220) (o := .cells #[.slice A0_0 l0_0.length c0_0, .int .i64 a0_1] 35 (0, 0)) (by (with_reducible repeat (first | refine blk_drewN ?_ _ | refine blk_drew ?_ | refine blk_alloc ?_ _)); exact BK220.out) hb); have n1_ := Aside0.mk (blk_below (g := gb221) (o := .cells #[.slice A1_0 l1_0.length c1_0, .int .i64 a1_1] 35 (0, 0)) (by (with_reducible repeat (first | refine blk_drewN ?_ _ | refine blk_drew ?_ | refine blk_alloc ?_ _)); exact BK221.out) hb); have n2_ := Aside0.mk (blk_below (g := gb222) (o := .cells #[.slice A2_0 l2_0.length c2_0, .int .i64 a2_1] 35 (0, 0)) (by (with_reducible repeat (first | refine blk_drewN ?_ _ | refine blk_drew ?_ | refine blk_alloc ?_ _)); exact BK222.out) hb); have n3_ := Aside0.mk (below_step (by repeat (first | (with_reducible first | exact HB.out | apply below_alloc | apply pw_below_drewN | apply below_drew1 | refine below_set ?_ GE220.out | refine below_set ?_ GE221.out | refine below_set ?_ GE222.out) | exact HB.out)) hb); clear BK220; clear BK221; clear BK222; clear HB; have BK220 := n0_; have BK221 := n1_; have BK222 := n2_; have HB := n3_; clear n0_ n1_ n2_ n3_; (try clear hb); (try clear hb2); (try clear hk); (try clear hi); have hcz31_0 : w30.cell? ⟨gb222, 0, none⟩ = some (.slice A2_0 l2_0.length c2_0) := (blk_cell BK222.out 0).trans rfl; have hcz31_1 : w30.cell? ⟨gb222, 1, none⟩ = some (.int .i64 a2_1) := (blk_cell BK222.out 1).trans rfl; have hfz31_0 := blk_frozen BK222.out 0; have hfz31_1 := blk_frozen BK222.out 1) | (go_at_call 15; (with_reducible refine (familychecklaw01_long.calls _ _ l2_0 a2_1 t225 _ ?side1 ?side2 A23.out).mono ?_); (case side1 => repeat (first | exact (Kd.C_below HR2_0.out HB.out) | (with_reducible refine Kd.C_alloc ?_ _) | (with_reducible refine Kd.C_drewN ?_ _) | (with_reducible refine Kd.C_drew ?_))); (case side2 => exact HC2_0.out); rintro e w32 ⟨rfl, hb⟩; have n0_ := Aside0.mk (blk_below (g := gb220) (o := .cells #[.slice A0_0 l0_0.length c0_0, .int .i64 a0_1] 35 (0, 0)) (by (with_reducible repeat (first | refine blk_drewN ?_ _ | refine blk_drew ?_ | refine blk_alloc ?_ _)); exact BK220.out) hb); have n1_ := Aside0.mk (blk_below (g := gb221) (o := .cells #[.slice A1_0 l1_0.length c1_0, .int .i64 a1_1] 35 (0, 0)) (by (with_reducible repeat (first | refine blk_drewN ?_ _ | refine blk_drew ?_ | refine blk_alloc ?_ _)); exact BK221.out) hb); have n2_ := Aside0.mk (blk_below (g := gb222) (o := .cells #[.slice A2_0 l2_0.length c2_0, .int .i64 a2_1] 35 (0, 0)) (by (with_reducible repeat (first | refine blk_drewN ?_ _ | refine blk_drew ?_ | refine blk_alloc ?_ _)); exact BK222.out) hb); have n3_ := Aside0.mk (below_step (by repeat (first | (with_reducible first | exact HB.out | apply below_alloc | apply pw_below_drewN | apply below_drew1 | refine below_set ?_ GE220.out | refine below_set ?_ GE221.out | refine below_set ?_ GE222.out) | exact HB.out)) hb); clear BK220; clear BK221; clear BK222; clear HB; have BK220 := n0_; have BK221 := n1_; have BK222 := n2_; have HB := n3_; clear n0_ n1_ n2_ n3_; (try clear hb); (try clear hb2); (try clear hk); (try clear hi)))
        go_meet
        case rel => exact ⟨_, (t225), (by first | rfl | (simp; done) | (simp [*]; done)), H', ⟨by first | omega | exact Nat.le_refl _⟩, ⟨by (with_reducible repeat (first | refine blk_drewN ?_ _ | refine blk_drew ?_ | refine blk_alloc ?_ _)); exact BK220.out⟩, ⟨by (with_reducible repeat (first | refine blk_drewN ?_ _ | refine blk_drew ?_ | refine blk_alloc ?_ _)); exact BK221.out⟩, ⟨by (with_reducible repeat (first | refine blk_drewN ?_ _ | refine blk_drew ?_ | refine blk_alloc ?_ _)); exact BK222.out⟩, ⟨by repeat (first | (with_reducible first | exact HB.out | apply below_alloc | apply pw_below_drewN | apply below_drew1 | refine below_set ?_ GE220.out | refine below_set ?_ GE221.out | refine below_set ?_ GE222.out) | exact HB.out)⟩⟩
  case rest =>
    clear HC4
    try clear c1
    try clear c2
    try clear p2
    try clear c4
    try clear c9
    try clear c10
    try clear c11
    try clear c15
    try clear c16
    try clear c17
    try clear c20
    try clear c24
    try clear c25
    try clear c28
    try clear hcz12_0
    try clear hcz12_1
    try clear hcz18_0
    try clear hcz18_1
    try clear hcz21_0
    try clear hcz21_1
    try clear hcz26_0
    try clear hcz26_1
    try clear hcz29_0
    try clear hcz29_1
    try clear hcz31_0
    try clear hcz31_1
    try clear hfz12_0
    try clear hfz12_1
    try clear hfz18_0
    try clear hfz18_1
    try clear hfz21_0
    try clear hfz21_1
    try clear hfz26_0
    try clear hfz26_1
    try clear hfz29_0
    try clear hfz29_1
    try clear hfz31_0
    try clear hfz31_1
    obtain ⟨kq, x19_3, rfl, HA, HJ3, BK220, BK221, BK222, HB⟩ := hcut
    cases kq with
    | zero => exact absurd HA.out (by simp [familychecklaw01_LinearCompares.j0])
    | succ kj3 =>
      have H := HA.out
      clear HA
      simp only [familychecklaw01_LinearCompares.j0] at H
      by_cases c33 : x19_3 = true
      · subst c33
        have H1 : ((familychecklaw01_known.f kj3).bind fun t226 => (some t226)) = some r := by rw [if_pos rfl] at H; exact H
        clear H
        have H := H1
        clear H1
        replace H := Option.bind_eq_some_iff.mp H
        obtain ⟨t226, A340, H⟩ := H
        replace H : (some t226) = some r := H
        have A34 := Aside0.mk A340
        clear A340
        obtain rfl := Option.some.inj H
        go_wp2_with (first | ((with_reducible refine gate_callee (f := 11) rfl ?_); refine goesL_ (some 20) rfl rfl Tryd.func11 (by kernel_rfl) rfl #[] rfl (by (try simp only [List.map_toArray, List.map_cons, List.map_nil]); first | done | rfl | (simp only [List.length_drop, List.length_take]; rfl)) ?_; (with_reducible refine (familychecklaw01_known.calls kj3  t226 _ A34.out).mono ?_); rintro e w35 ⟨rfl, hb⟩; refine ⟨_, rfl, ?_⟩; have n0_ := Aside0.mk (blk_below (g := gb220) (o := .cells #[.slice A0_0 l0_0.length c0_0, .int .i64 a0_1] 35 (0, 0)) (by (with_reducible repeat (first | refine blk_drewN ?_ _ | refine blk_drew ?_ | refine blk_alloc ?_ _)); exact BK220.out) hb); have n1_ := Aside0.mk (blk_below (g := gb221) (o := .cells #[.slice A1_0 l1_0.length c1_0, .int .i64 a1_1] 35 (0, 0)) (by (with_reducible repeat (first | refine blk_drewN ?_ _ | refine blk_drew ?_ | refine blk_alloc ?_ _)); exact BK221.out) hb); have n2_ := Aside0.mk (blk_below (g := gb222) (o := .cells #[.slice A2_0 l2_0.length c2_0, .int .i64 a2_1] 35 (0, 0)) (by (with_reducible repeat (first | refine blk_drewN ?_ _ | refine blk_drew ?_ | refine blk_alloc ?_ _)); exact BK222.out) hb); have n3_ := Aside0.mk (below_step (by repeat (first | (with_reducible first | exact HB.out | apply below_alloc | apply pw_below_drewN | apply below_drew1 | refine below_set ?_ GE220.out | refine below_set ?_ GE221.out | refine below_set ?_ GE222.out) | exact HB.out)) hb); clear BK220; clear BK221; clear BK222; clear HB; have BK220 := n0_; have BK221 := n1_; have BK222 := n2_; have HB := n3_; clear n0_ n1_ n2_ n3_; (try clear hb); (try clear hb2); (try clear hk); (try clear hi)))
        go_ret
        exact ⟨by first | rfl | (simp [errW_none, errW_some] <;> rfl) | (simp [*, errW_none, errW_some] <;> rfl), by repeat (first | (with_reducible first | exact HB.out | apply below_alloc | apply pw_below_drewN | apply below_drew1 | refine below_set ?_ GE220.out | refine below_set ?_ GE221.out | refine below_set ?_ GE222.out) | exact HB.out)⟩
      · replace c33 := Bool.eq_false_iff.mpr c33
        subst c33
        have H1 : ((linear_Compare.f kj3 l0_0 a0_1 l1_0 a1_1).bind fun t227 => ((linear_Compare.f kj3 l1_0 a1_1 l2_0 a2_1).bind fun t228 => ((linear_Compare.f kj3 l0_0 a0_1 l2_0 a2_1).bind fun t229 => ((familycheckref01_Compare.f kj3 l0_0 a0_1 l1_0 a1_1).bind fun t230 => (if t227 = t230 then ((linear_Compare.f kj3 l1_0 a1_1 l0_0 a0_1).bind fun t231 => (if t231 = (wrap64 (-t227)) then ((linear_Compare.f kj3 l0_0 a0_1 l0_0 a0_1).bind fun t232 => (familychecklaw01_LinearCompares.j1 kj3 t227 t228 t229 (t232 != 0) l0_0 a0_1 l1_0 a1_1)) else (familychecklaw01_LinearCompares.j1 kj3 t227 t228 t229 true l0_0 a0_1 l1_0 a1_1))) else (familychecklaw01_LinearCompares.j1 kj3 t227 t228 t229 true l0_0 a0_1 l1_0 a1_1)))))) = some r := by rw [if_neg (show ¬ (false = true) by decide)] at H; exact H
        clear H
        have H := H1
        clear H1
        replace H := Option.bind_eq_some_iff.mp H
        obtain ⟨t227, A360, H⟩ := H
        replace H : ((linear_Compare.f kj3 l1_0 a1_1 l2_0 a2_1).bind fun t228 => ((linear_Compare.f kj3 l0_0 a0_1 l2_0 a2_1).bind fun t229 => ((familycheckref01_Compare.f kj3 l0_0 a0_1 l1_0 a1_1).bind fun t230 => (if t227 = t230 then ((linear_Compare.f kj3 l1_0 a1_1 l0_0 a0_1).bind fun t231 => (if t231 = (wrap64 (-t227)) then ((linear_Compare.f kj3 l0_0 a0_1 l0_0 a0_1).bind fun t232 => (familychecklaw01_LinearCompares.j1 kj3 t227 t228 t229 (t232 != 0) l0_0 a0_1 l1_0 a1_1)) else (familychecklaw01_LinearCompares.j1 kj3 t227 t228 t229 true l0_0 a0_1 l1_0 a1_1))) else (familychecklaw01_LinearCompares.j1 kj3 t227 t228 t229 true l0_0 a0_1 l1_0 a1_1))))) = some r := H
        have A36 := Aside0.mk A360
        clear A360
        replace H := Option.bind_eq_some_iff.mp H
        obtain ⟨t228, A370, H⟩ := H
        replace H : ((linear_Compare.f kj3 l0_0 a0_1 l2_0 a2_1).bind fun t229 => ((familycheckref01_Compare.f kj3 l0_0 a0_1 l1_0 a1_1).bind fun t230 => (if t227 = t230 then ((linear_Compare.f kj3 l1_0 a1_1 l0_0 a0_1).bind fun t231 => (if t231 = (wrap64 (-t227)) then ((linear_Compare.f kj3 l0_0 a0_1 l0_0 a0_1).bind fun t232 => (familychecklaw01_LinearCompares.j1 kj3 t227 t228 t229 (t232 != 0) l0_0 a0_1 l1_0 a1_1)) else (familychecklaw01_LinearCompares.j1 kj3 t227 t228 t229 true l0_0 a0_1 l1_0 a1_1))) else (familychecklaw01_LinearCompares.j1 kj3 t227 t228 t229 true l0_0 a0_1 l1_0 a1_1)))) = some r := H
        have A37 := Aside0.mk A370
        clear A370
        replace H := Option.bind_eq_some_iff.mp H
        obtain ⟨t229, A380, H⟩ := H
        replace H : ((familycheckref01_Compare.f kj3 l0_0 a0_1 l1_0 a1_1).bind fun t230 => (if t227 = t230 then ((linear_Compare.f kj3 l1_0 a1_1 l0_0 a0_1).bind fun t231 => (if t231 = (wrap64 (-t227)) then ((linear_Compare.f kj3 l0_0 a0_1 l0_0 a0_1).bind fun t232 => (familychecklaw01_LinearCompares.j1 kj3 t227 t228 t229 (t232 != 0) l0_0 a0_1 l1_0 a1_1)) else (familychecklaw01_LinearCompares.j1 kj3 t227 t228 t229 true l0_0 a0_1 l1_0 a1_1))) else (familychecklaw01_LinearCompares.j1 kj3 t227 t228 t229 true l0_0 a0_1 l1_0 a1_1))) = some r := H
        have A38 := Aside0.mk A380
        clear A380
        have HC39 := Aside0.mk H
        clear H
        try go_wp2
        have n0_ := Aside0.mk (blk_drew BK220.out)
        have n1_ := Aside0.mk (blk_drew BK221.out)
        have n2_ := Aside0.mk (blk_drew BK222.out)
        have n3_ := Aside0.mk (below_drew1 HB.out)
        clear BK220
        clear BK221
        clear BK222
        clear HB
        have BK220 := n0_
        have BK221 := n1_
        have BK222 := n2_
        have HB := n3_
        clear n0_ n1_ n2_ n3_
        refine start_ (n := 12) (S := fun w' => w'.cell? ⟨gb220, 0, none⟩ = some (.slice A0_0 l0_0.length c0_0) ∧ w'.cell? ⟨gb220, 1, none⟩ = some (.int .i64 a0_1) ∧ w'.cell? ⟨gb221, 0, none⟩ = some (.slice A1_0 l1_0.length c1_0) ∧ w'.cell? ⟨gb221, 1, none⟩ = some (.int .i64 a1_1) ∧ w'.cell? ⟨gb222, 0, none⟩ = some (.slice A2_0 l2_0.length c2_0) ∧ w'.cell? ⟨gb222, 1, none⟩ = some (.int .i64 a2_1)) (ds := []) #[false, false, false, false, false, false, false, false, false, false, false, false] (by kernel_rfl) rfl rfl ⟨(blk_cell BK220.out 0).trans rfl, (blk_cell BK220.out 1).trans rfl, (blk_cell BK221.out 0).trans rfl, (blk_cell BK221.out 1).trans rfl, (blk_cell BK222.out 0).trans rfl, (blk_cell BK222.out 1).trans rfl⟩ (fun hHeld => ?_); refine with_tabW familychecklaw01_LinearCompares.tab3 familychecklaw01_LinearCompares.bits3 (fun HT_ HW_ => ?_)
        generalize wc.drew = w40 at BK220 BK221 BK222 HB hHeld ⊢
        refine take_ (i := 0) (N := some 21) (v := ?_) (a' := ?_) #[true, false, false, false, false, false, false, false, false, false, false, false] rfl rfl (take_ofW HT_.out HW_.out (by kernel_rfl)) (fun _ _ _ h => h) (Or.inl ⟨by rfl, ?_⟩) hHeld ?_ ?_
        rotate_left
        · rintro w' ⟨s0, s1, s2, s3, s4, s5⟩
          go_simp
          with_reducible rfl
        rotate_left
        · simp only [Act.put, List.setIfInBounds_toArray, List.set_cons_zero, List.set_cons_succ, i64_w, i32_w]
          rfl
        refine take_ (i := 1) (N := some 22) (v := ?_) (a' := ?_) #[true, true, false, false, false, false, false, false, false, false, false, false] rfl rfl (take_ofW HT_.out HW_.out (by kernel_rfl)) (fun _ _ _ h => h) (Or.inl ⟨by rfl, ?_⟩) hHeld ?_ ?_
        rotate_left
        · rintro w' ⟨s0, s1, s2, s3, s4, s5⟩
          go_simp
          with_reducible rfl
        rotate_left
        · simp only [Act.put, List.setIfInBounds_toArray, List.set_cons_zero, List.set_cons_succ, i64_w, i32_w]
          rfl
        refine take_ (i := 3) (N := some 24) (v := ?_) (a' := ?_) #[true, true, false, true, false, false, false, false, false, false, false, false] rfl rfl (take_ofW HT_.out HW_.out (by kernel_rfl)) (fun _ _ _ h => h) (Or.inl ⟨by rfl, ?_⟩) hHeld ?_ ?_
        rotate_left
        · rintro w' ⟨s0, s1, s2, s3, s4, s5⟩
          go_simp
          with_reducible rfl
        rotate_left
        · simp only [Act.put, List.setIfInBounds_toArray, List.set_cons_zero, List.set_cons_succ, i64_w, i32_w]
          rfl
        refine take_ (i := 4) (N := some 25) (v := ?_) (a' := ?_) #[true, true, false, true, true, false, false, false, false, false, false, false] rfl rfl (take_ofW HT_.out HW_.out (by kernel_rfl)) (fun _ _ _ h => h) (Or.inl ⟨by rfl, ?_⟩) hHeld ?_ ?_
        rotate_left
        · rintro w' ⟨s0, s1, s2, s3, s4, s5⟩
          go_simp
          with_reducible rfl
        rotate_left
        · simp only [Act.put, List.setIfInBounds_toArray, List.set_cons_zero, List.set_cons_succ, i64_w, i32_w]
          rfl
        refine take_ (i := 6) (N := some 27) (v := ?_) (a' := ?_) #[true, true, false, true, true, false, true, false, false, false, false, false] rfl rfl (take_ofW HT_.out HW_.out (by kernel_rfl)) (fun _ _ _ h => h) (Or.inl ⟨by rfl, ?_⟩) hHeld ?_ ?_
        rotate_left
        · rintro w' ⟨s0, s1, s2, s3, s4, s5⟩
          go_simp
          with_reducible rfl
        rotate_left
        · simp only [Act.put, List.setIfInBounds_toArray, List.set_cons_zero, List.set_cons_succ, i64_w, i32_w]
          rfl
        refine take_ (i := 7) (N := some 28) (v := ?_) (a' := ?_) #[true, true, false, true, true, false, true, true, false, false, false, false] rfl rfl (take_ofW HT_.out HW_.out (by kernel_rfl)) (fun _ _ _ h => h) (Or.inl ⟨by rfl, ?_⟩) hHeld ?_ ?_
        rotate_left
        · rintro w' ⟨s0, s1, s2, s3, s4, s5⟩
          go_simp
          with_reducible rfl
        rotate_left
        · simp only [Act.put, List.setIfInBounds_toArray, List.set_cons_zero, List.set_cons_succ, i64_w, i32_w]
          rfl
        refine one_ (i := 2) (N := some 23) #[true, true, true, true, true, false, true, true, false, false, false, false] rfl rfl (one_of HT_.out (by kernel_rfl)) (by decide) (fun K hK => ?_)
        refine goes_ Tryd.func16 (by kernel_rfl) rfl #[.agg #[.slice A0_0 l0_0.length c0_0, .int .i64 a0_1], .agg #[.slice A1_0 l1_0.length c1_0, .int .i64 a1_1]] (by rfl) rfl rfl (by (try simp only [List.map_toArray, List.map_cons, List.map_nil]); first | done | rfl | (simp only [List.length_drop, List.length_take]; rfl)) ?_
        with_reducible refine (linear_Compare.calls kj3 _ _ l0_0 a0_1 _ _ l1_0 a1_1 t227 _ ?side1 ?side2 ?side3 ?side4 A36.out).mono ?_
        (case side1 => repeat (first | exact (Kd.C_below HR0_0.out HB.out) | (with_reducible refine Kd.C_alloc ?_ _) | (with_reducible refine Kd.C_drewN ?_ _) | (with_reducible refine Kd.C_drew ?_)))
        (case side2 => exact HC0_0.out)
        (case side3 => repeat (first | exact (Kd.C_below HR1_0.out HB.out) | (with_reducible refine Kd.C_alloc ?_ _) | (with_reducible refine Kd.C_drewN ?_ _) | (with_reducible refine Kd.C_drew ?_)))
        (case side4 => exact HC1_0.out)
        rintro e w41 ⟨rfl, hb⟩
        refine ⟨_, rfl, ?_⟩
        have n0_ := Aside0.mk (blk_below (g := gb220) (o := .cells #[.slice A0_0 l0_0.length c0_0, .int .i64 a0_1] 35 (0, 0)) (by (with_reducible repeat (first | refine blk_drewN ?_ _ | refine blk_drew ?_ | refine blk_alloc ?_ _)); exact BK220.out) hb)
        have n1_ := Aside0.mk (blk_below (g := gb221) (o := .cells #[.slice A1_0 l1_0.length c1_0, .int .i64 a1_1] 35 (0, 0)) (by (with_reducible repeat (first | refine blk_drewN ?_ _ | refine blk_drew ?_ | refine blk_alloc ?_ _)); exact BK221.out) hb)
        have n2_ := Aside0.mk (blk_below (g := gb222) (o := .cells #[.slice A2_0 l2_0.length c2_0, .int .i64 a2_1] 35 (0, 0)) (by (with_reducible repeat (first | refine blk_drewN ?_ _ | refine blk_drew ?_ | refine blk_alloc ?_ _)); exact BK222.out) hb)
        have n3_ := Aside0.mk (below_step (by repeat (first | (with_reducible first | exact HB.out | apply below_alloc | apply pw_below_drewN | apply below_drew1 | refine below_set ?_ GE220.out | refine below_set ?_ GE221.out | refine below_set ?_ GE222.out) | exact HB.out)) hb)
        clear BK220
        clear BK221
        clear BK222
        clear HB
        have BK220 := n0_
        have BK221 := n1_
        have BK222 := n2_
        have HB := n3_
        clear n0_ n1_ n2_ n3_
        (try clear hb)
        (try clear hb2)
        (try clear hk)
        (try clear hi)
        refine hK.out _ _ ⟨(blk_cell BK220.out 0).trans rfl, (blk_cell BK220.out 1).trans rfl, (blk_cell BK221.out 0).trans rfl, (blk_cell BK221.out 1).trans rfl, (blk_cell BK222.out 0).trans rfl, (blk_cell BK222.out 1).trans rfl⟩ (fun hHeld => ?_)
        clear hK K
        refine norm_ (a' := ?_) ?_ ?_
        rotate_left
        · show Act.put _ (some 23) _ = _
          simp only [Act.put, List.setIfInBounds_toArray, List.set_cons_zero, List.set_cons_succ, i64_w, i32_w]
          rfl
        refine one_ (i := 5) (N := some 26) #[true, true, true, true, true, true, true, true, false, false, false, false] rfl rfl (one_of HT_.out (by kernel_rfl)) (by decide) (fun K hK => ?_)
        refine goes_ Tryd.func16 (by kernel_rfl) rfl #[.agg #[.slice A1_0 l1_0.length c1_0, .int .i64 a1_1], .agg #[.slice A2_0 l2_0.length c2_0, .int .i64 a2_1]] (by rfl) rfl rfl (by (try simp only [List.map_toArray, List.map_cons, List.map_nil]); first | done | rfl | (simp only [List.length_drop, List.length_take]; rfl)) ?_
        with_reducible refine (linear_Compare.calls kj3 _ _ l1_0 a1_1 _ _ l2_0 a2_1 t228 _ ?side1 ?side2 ?side3 ?side4 A37.out).mono ?_
        (case side1 => repeat (first | exact (Kd.C_below HR1_0.out HB.out) | (with_reducible refine Kd.C_alloc ?_ _) | (with_reducible refine Kd.C_drewN ?_ _) | (with_reducible refine Kd.C_drew ?_)))
        (case side2 => exact HC1_0.out)
        (case side3 => repeat (first | exact (Kd.C_below HR2_0.out HB.out) | (with_reducible refine Kd.C_alloc ?_ _) | (with_reducible refine Kd.C_drewN ?_ _) | (with_reducible refine Kd.C_drew ?_)))
        (case side4 => exact HC2_0.out)
        rintro e w42 ⟨rfl, hb⟩
        refine ⟨_, rfl, ?_⟩
        have n0_ := Aside0.mk (blk_below (g := gb220) (o := .cells #[.slice A0_0 l0_0.length c0_0, .int .i64 a0_1] 35 (0, 0)) (by (with_reducible repeat (first | refine blk_drewN ?_ _ | refine blk_drew ?_ | refine blk_alloc ?_ _)); exact BK220.out) hb)
        have n1_ := Aside0.mk (blk_below (g := gb221) (o := .cells #[.slice A1_0 l1_0.length c1_0, .int .i64 a1_1] 35 (0, 0)) (by (with_reducible repeat (first | refine blk_drewN ?_ _ | refine blk_drew ?_ | refine blk_alloc ?_ _)); exact BK221.out) hb)
        have n2_ := Aside0.mk (blk_below (g := gb222) (o := .cells #[.slice A2_0 l2_0.length c2_0, .int .i64 a2_1] 35 (0, 0)) (by (with_reducible repeat (first | refine blk_drewN ?_ _ | refine blk_drew ?_ | refine blk_alloc ?_ _)); exact BK222.out) hb)
        have n3_ := Aside0.mk (below_step (by repeat (first | (with_reducible first | exact HB.out | apply below_alloc | apply pw_below_drewN | apply below_drew1 | refine below_set ?_ GE220.out | refine below_set ?_ GE221.out | refine below_set ?_ GE222.out) | exact HB.out)) hb)
        clear BK220
        clear BK221
        clear BK222
        clear HB
        have BK220 := n0_
        have BK221 := n1_
        have BK222 := n2_
        have HB := n3_
        clear n0_ n1_ n2_ n3_
        (try clear hb)
        (try clear hb2)
        (try clear hk)
        (try clear hi)
        refine hK.out _ _ ⟨(blk_cell BK220.out 0).trans rfl, (blk_cell BK220.out 1).trans rfl, (blk_cell BK221.out 0).trans rfl, (blk_cell BK221.out 1).trans rfl, (blk_cell BK222.out 0).trans rfl, (blk_cell BK222.out 1).trans rfl⟩ (fun hHeld => ?_)
        clear hK K
        refine norm_ (a' := ?_) ?_ ?_
        rotate_left
        · show Act.put _ (some 26) _ = _
          simp only [Act.put, List.setIfInBounds_toArray, List.set_cons_zero, List.set_cons_succ, i64_w, i32_w]
          rfl
        refine one_ (i := 8) (N := some 29) #[true, true, true, true, true, true, true, true, true, false, false, false] rfl rfl (one_of HT_.out (by kernel_rfl)) (by decide) (fun K hK => ?_)
        refine goes_ Tryd.func16 (by kernel_rfl) rfl #[.agg #[.slice A0_0 l0_0.length c0_0, .int .i64 a0_1], .agg #[.slice A2_0 l2_0.length c2_0, .int .i64 a2_1]] (by rfl) rfl rfl (by (try simp only [List.map_toArray, List.map_cons, List.map_nil]); first | done | rfl | (simp only [List.length_drop, List.length_take]; rfl)) ?_
        with_reducible refine (linear_Compare.calls kj3 _ _ l0_0 a0_1 _ _ l2_0 a2_1 t229 _ ?side1 ?side2 ?side3 ?side4 A38.out).mono ?_
        (case side1 => repeat (first | exact (Kd.C_below HR0_0.out HB.out) | (with_reducible refine Kd.C_alloc ?_ _) | (with_reducible refine Kd.C_drewN ?_ _) | (with_reducible refine Kd.C_drew ?_)))
        (case side2 => exact HC0_0.out)
        (case side3 => repeat (first | exact (Kd.C_below HR2_0.out HB.out) | (with_reducible refine Kd.C_alloc ?_ _) | (with_reducible refine Kd.C_drewN ?_ _) | (with_reducible refine Kd.C_drew ?_)))
        (case side4 => exact HC2_0.out)
        rintro e w43 ⟨rfl, hb⟩
        refine ⟨_, rfl, ?_⟩
        have n0_ := Aside0.mk (blk_below (g := gb220) (o := .cells #[.slice A0_0 l0_0.length c0_0, .int .i64 a0_1] 35 (0, 0)) (by (with_reducible repeat (first | refine blk_drewN ?_ _ | refine blk_drew ?_ | refine blk_alloc ?_ _)); exact BK220.out) hb)
        have n1_ := Aside0.mk (blk_below (g := gb221) (o := .cells #[.slice A1_0 l1_0.length c1_0, .int .i64 a1_1] 35 (0, 0)) (by (with_reducible repeat (first | refine blk_drewN ?_ _ | refine blk_drew ?_ | refine blk_alloc ?_ _)); exact BK221.out) hb)
        have n2_ := Aside0.mk (blk_below (g := gb222) (o := .cells #[.slice A2_0 l2_0.length c2_0, .int .i64 a2_1] 35 (0, 0)) (by (with_reducible repeat (first | refine blk_drewN ?_ _ | refine blk_drew ?_ | refine blk_alloc ?_ _)); exact BK222.out) hb)
        have n3_ := Aside0.mk (below_step (by repeat (first | (with_reducible first | exact HB.out | apply below_alloc | apply pw_below_drewN | apply below_drew1 | refine below_set ?_ GE220.out | refine below_set ?_ GE221.out | refine below_set ?_ GE222.out) | exact HB.out)) hb)
        clear BK220
        clear BK221
        clear BK222
        clear HB
        have BK220 := n0_
        have BK221 := n1_
        have BK222 := n2_
        have HB := n3_
        clear n0_ n1_ n2_ n3_
        (try clear hb)
        (try clear hb2)
        (try clear hk)
        (try clear hi)
        refine hK.out _ _ ⟨(blk_cell BK220.out 0).trans rfl, (blk_cell BK220.out 1).trans rfl, (blk_cell BK221.out 0).trans rfl, (blk_cell BK221.out 1).trans rfl, (blk_cell BK222.out 0).trans rfl, (blk_cell BK222.out 1).trans rfl⟩ (fun hHeld => ?_)
        clear hK K
        refine norm_ (a' := ?_) ?_ ?_
        rotate_left
        · show Act.put _ (some 29) _ = _
          simp only [Act.put, List.setIfInBounds_toArray, List.set_cons_zero, List.set_cons_succ, i64_w, i32_w]
          rfl
        refine pure_ (i := 9) (N := some 7) (v := ?_) (a' := ?_) #[true, true, true, true, true, true, true, true, true, true, false, false] rfl rfl (any_of HT_.out (by kernel_rfl)) (fun _ _ _ h => h) (Or.inl ⟨by rfl, ?_⟩) ?_ ?_
        rotate_left
        · intro w'
          go_simp
          with_reducible rfl
        rotate_left
        · simp only [Act.put, List.setIfInBounds_toArray, List.set_cons_zero, List.set_cons_succ, i64_w, i32_w]
          rfl
        refine pure_ (i := 10) (N := some 8) (v := ?_) (a' := ?_) #[true, true, true, true, true, true, true, true, true, true, true, false] rfl rfl (any_of HT_.out (by kernel_rfl)) (fun _ _ _ h => h) (Or.inl ⟨by rfl, ?_⟩) ?_ ?_
        rotate_left
        · intro w'
          go_simp
          with_reducible rfl
        rotate_left
        · simp only [Act.put, List.setIfInBounds_toArray, List.set_cons_zero, List.set_cons_succ, i64_w, i32_w]
          rfl
        refine pure_ (i := 11) (N := some 9) (v := ?_) (a' := ?_) #[true, true, true, true, true, true, true, true, true, true, true, true] rfl rfl (any_of HT_.out (by kernel_rfl)) (fun _ _ _ h => h) (Or.inl ⟨by rfl, ?_⟩) ?_ ?_
        rotate_left
        · intro w'
          go_simp
          with_reducible rfl
        rotate_left
        · simp only [Act.put, List.setIfInBounds_toArray, List.set_cons_zero, List.set_cons_succ, i64_w, i32_w]
          rfl
        refine done_ (done_of HT_.out (by kernel_rfl)) ?_
        go_upto_region 4 with (fail)
        go_cut [48] (fun v48 wc => ∃ (kq : Nat) (x48_38 : Bool), v48 = .bool x48_38 ∧ Aside0 (familychecklaw01_LinearCompares.j1 kq t227 t228 t229 x48_38 l0_0 a0_1 l1_0 a1_1 = some r) ∧ Aside0 (kq ≤ kj3) ∧ Aside0 (wc.heap[gb220]? = some (.cells #[(.slice A0_0 l0_0.length c0_0), .int .i64 a0_1] 35 (0, 0))) ∧ Aside0 (wc.heap[gb221]? = some (.cells #[(.slice A1_0 l1_0.length c1_0), .int .i64 a1_1] 35 (0, 0))) ∧ Aside0 (wc.heap[gb222]? = some (.cells #[(.slice A2_0 l2_0.length c2_0), .int .i64 a2_1] 35 (0, 0))) ∧ Aside0 (Below w.heap.size w wc))
        case first =>
          have H := HC39.out
          clear HC39
          replace H := Option.bind_eq_some_iff.mp H
          obtain ⟨t230, A440, H⟩ := H
          replace H : (if t227 = t230 then ((linear_Compare.f kj3 l1_0 a1_1 l0_0 a0_1).bind fun t231 => (if t231 = (wrap64 (-t227)) then ((linear_Compare.f kj3 l0_0 a0_1 l0_0 a0_1).bind fun t232 => (familychecklaw01_LinearCompares.j1 kj3 t227 t228 t229 (t232 != 0) l0_0 a0_1 l1_0 a1_1)) else (familychecklaw01_LinearCompares.j1 kj3 t227 t228 t229 true l0_0 a0_1 l1_0 a1_1))) else (familychecklaw01_LinearCompares.j1 kj3 t227 t228 t229 true l0_0 a0_1 l1_0 a1_1)) = some r := H
          have A44 := Aside0.mk A440
          clear A440
          by_cases c45 : t227 = t230
          · rw [if_pos c45] at H
            have c45b0 : (t227 == t230) = true := beq_iff_eq.mpr c45
            have c45b1 : (t227 != t230) = false := bne_eq_false_iff_eq.mpr c45
            clear c45
            (first | rw [c45b0] | (simp only [i64_w, i32_w]; rw [c45b0]) | skip)
            replace H := Option.bind_eq_some_iff.mp H
            obtain ⟨t231, A460, H⟩ := H
            replace H : (if t231 = (wrap64 (-t227)) then ((linear_Compare.f kj3 l0_0 a0_1 l0_0 a0_1).bind fun t232 => (familychecklaw01_LinearCompares.j1 kj3 t227 t228 t229 (t232 != 0) l0_0 a0_1 l1_0 a1_1)) else (familychecklaw01_LinearCompares.j1 kj3 t227 t228 t229 true l0_0 a0_1 l1_0 a1_1)) = some r := H
            have A46 := Aside0.mk A460
            clear A460
            by_cases c47 : t231 = (wrap64 (-t227))
            · rw [if_pos c47] at H
              have c47b0 : (t231 == (wrap64 (-t227))) = true := beq_iff_eq.mpr c47
              have c47b1 : (t231 != (wrap64 (-t227))) = false := bne_eq_false_iff_eq.mpr c47
              clear c47
              replace H := Option.bind_eq_some_iff.mp H
              obtain ⟨t232, A480, H⟩ := H
              replace H : (familychecklaw01_LinearCompares.j1 kj3 t227 t228 t229 (t232 != 0) l0_0 a0_1 l1_0 a1_1) = some r := H
              have A48 := Aside0.mk A480
              clear A480
              have H' := Aside0.mk H
              clear H
              have hnb49 := NB220_221.out
              have hnc49 := NB221_220.out
              have hnb50 := NB220_222.out
              have hnc50 := NB222_220.out
              have hcz51_0 : w43.cell? ⟨gb220, 0, none⟩ = some (.slice A0_0 l0_0.length c0_0) := (blk_cell BK220.out 0).trans rfl
              have hcz51_1 : w43.cell? ⟨gb220, 1, none⟩ = some (.int .i64 a0_1) := (blk_cell BK220.out 1).trans rfl
              have hfz51_0 := blk_frozen BK220.out 0
              have hfz51_1 := blk_frozen BK220.out 1
              have hnb52 := NB221_222.out
              have hnc52 := NB222_221.out
              have hcz53_0 : w43.cell? ⟨gb221, 0, none⟩ = some (.slice A1_0 l1_0.length c1_0) := (blk_cell BK221.out 0).trans rfl
              have hcz53_1 : w43.cell? ⟨gb221, 1, none⟩ = some (.int .i64 a1_1) := (blk_cell BK221.out 1).trans rfl
              have hfz53_0 := blk_frozen BK221.out 0
              have hfz53_1 := blk_frozen BK221.out 1
              go_wp2_with (first | ((with_reducible refine gate_callee (f := 17) rfl ?_); refine goesL_ (some 33) rfl rfl Tryd.func17 (by kernel_rfl) rfl #[.agg #[.slice A0_0 l0_0.length c0_0, .int .i64 a0_1], .agg #[.slice A1_0 l1_0.length c1_0, .int .i64 a1_1]] rfl (by (try simp only [List.map_toArray, List.map_cons, List.map_nil]); first | done | rfl | (simp only [List.length_drop, List.length_take]; rfl)) ?_; (with_reducible refine (familycheckref01_Compare.calls kj3 _ _ l0_0 a0_1 _ _ l1_0 a1_1 t230 _ ?side1 ?side2 ?side3 ?side4 A44.out).mono ?_); (case side1 => repeat (first | exact (Kd.C_below HR0_0.out HB.out) | (with_reducible refine Kd.C_alloc ?_ _) | (with_reducible refine Kd.C_drewN ?_ _) | (with_reducible refine Kd.C_drew ?_))); (case side2 => exact HC0_0.out); (case side3 => repeat (first | exact (Kd.C_below HR1_0.out HB.out) | (with_reducible refine Kd.C_alloc ?_ _) | (with_reducible refine Kd.C_drewN ?_ _) | (with_reducible refine Kd.C_drew ?_))); (case side4 => exact HC1_0.out); rintro e w54 ⟨rfl, hb⟩; refine ⟨_, rfl, ?_⟩; have n0_ := Aside0.mk (blk_below (g := gb220) (o := .cells #[.slice A0_0 l0_0.length c0_0, .int .i64 a0_1] 35 (0, 0)) (by (with_reducible repeat (first | refine blk_drewN ?_ _ | refine blk_drew ?_ | refine blk_alloc ?_ _)); exact BK220.out) hb); have n1_ := Aside0.mk (blk_below (g := gb221) (o := .cells #[.slice A1_0 l1_0.length c1_0, .int .i64 a1_1] 35 (0, 0)) (by (with_reducible repeat (first | refine blk_drewN ?_ _ | refine blk_drew ?_ | refine blk_alloc ?_ _)); exact BK221.out) hb); have n2_ := Aside0.mk (blk_below (g := gb222) (o := .cells #[.slice A2_0 l2_0.length c2_0, .int .i64 a2_1] 35 (0, 0)) (by (with_reducible repeat (first | refine blk_drewN ?_ _ | refine blk_drew ?_ | refine blk_alloc ?_ _)); exact BK222.out) hb); have n3_ := Aside0.mk (below_step (by repeat (first | (with_reducible first | exact HB.out | apply below_alloc | apply pw_below_drewN | apply below_drew1 | refine below_set ?_ GE220.out | refine below_set ?_ GE221.out | refine below_set ?_ GE222.out) | exact HB.out)) hb); clear BK220; clear BK221; clear BK222; clear HB; have BK220 := n0_; have BK221 := n1_; have BK222 := n2_; have HB := n3_; clear n0_ n1_ n2_ n3_; (try clear hb); (try clear hb2); (try clear hk); (try clear hi); have hcz55_0 : w54.cell? ⟨gb221, 0, none⟩ = some (.slice A1_0 l1_0.length c1_0) := (blk_cell BK221.out 0).trans rfl; have hcz55_1 : w54.cell? ⟨gb221, 1, none⟩ = some (.int .i64 a1_1) := (blk_cell BK221.out 1).trans rfl; have hfz55_0 := blk_frozen BK221.out 0; have hfz55_1 := blk_frozen BK221.out 1; have hcz56_0 : w54.cell? ⟨gb220, 0, none⟩ = some (.slice A0_0 l0_0.length c0_0) := (blk_cell BK220.out 0).trans rfl; have hcz56_1 : w54.cell? ⟨gb220, 1, none⟩ = some (.int .i64 a0_1) := (blk_cell BK220.out 1).trans rfl; have hfz56_0 := blk_frozen BK220.out 0; have hfz56_1 := blk_frozen BK220.out 1) | (go_at_call 16; (with_reducible refine (linear_Compare.calls kj3 _ _ l1_0 a1_1 _ _ l0_0 a0_1 t231 _ ?side1 ?side2 ?side3 ?side4 A46.out).mono ?_); (case side1 => repeat (first | exact (Kd.C_below HR1_0.out HB.out) | (with_reducible refine Kd.C_alloc ?_ _) | (with_reducible refine Kd.C_drewN ?_ _) | (with_reducible refine Kd.C_drew ?_))); (case side2 => exact HC1_0.out); (case side3 => repeat (first | exact (Kd.C_below HR0_0.out HB.out) | (with_reducible refine Kd.C_alloc ?_ _) | (with_reducible refine Kd.C_drewN ?_ _) | (with_reducible refine Kd.C_drew ?_))); (case side4 => exact HC0_0.out); rintro e w57 ⟨rfl, hb⟩; have n0_ := Aside0.mk (blk_below (g := gb220) (o := .cells #[.slice A0_0 l0_0.length c0_0, .int .i64 a0_1] 35 (0, 0)) (by (with_reducible repeat (first | refine blk_drewN ?_ _ | refine blk_drew ?_ | refine blk_alloc ?_ _)); exact BK220.out) hb); have n1_ := Aside0.mk (blk_below (g := gb221) (o := .cells #[.slice A1_0 l1_0.length c1_0, .int .i64 a1_1] 35 (0, 0)) (by (with_reducible repeat (first | refine blk_drewN ?_ _ | refine blk_drew ?_ | refine blk_alloc ?_ _)); exact BK221.out) hb); have n2_ := Aside0.mk (blk_below (g := gb222) (o := .cells #[.slice A2_0 l2_0.length c2_0, .int .i64 a2_1] 35 (0, 0)) (by (with_reducible repeat (first | refine blk_drewN ?_ _ | refine blk_drew ?_ | refine blk_alloc ?_ _)); exact BK222.out) hb); have n3_ := Aside0.mk (below_step (by repeat (first | (with_reducible first | exact HB.out | apply below_alloc | apply pw_below_drewN | apply below_drew1 | refine below_set ?_ GE220.out | refine below_set ?_ GE221.out | refine below_set ?_ GE222.out) | exact HB.out)) hb); clear BK220; clear BK221; clear BK222; clear HB; have BK220 := n0_; have BK221 := n1_; have BK222 := n2_; have HB := n3_; clear n0_ n1_ n2_ n3_; (try clear hb); (try clear hb2); (try clear hk); (try clear hi); have hcz58_0 : w57.cell? ⟨gb220, 0, none⟩ = some (.slice A0_0 l0_0.length c0_0) := (blk_cell BK220.out 0).trans rfl; have hcz58_1 : w57.cell? ⟨gb220, 1, none⟩ = some (.int .i64 a0_1) := (blk_cell BK220.out 1).trans rfl; have hfz58_0 := blk_frozen BK220.out 0; have hfz58_1 := blk_frozen BK220.out 1) | (go_at_call 16; (with_reducible refine (linear_Compare.calls kj3 _ _ l0_0 a0_1 _ _ l0_0 a0_1 t232 _ ?side1 ?side2 ?side3 ?side4 A48.out).mono ?_); (case side1 => repeat (first | exact (Kd.C_below HR0_0.out HB.out) | (with_reducible refine Kd.C_alloc ?_ _) | (with_reducible refine Kd.C_drewN ?_ _) | (with_reducible refine Kd.C_drew ?_))); (case side2 => exact HC0_0.out); (case side3 => repeat (first | exact (Kd.C_below HR0_0.out HB.out) | (with_reducible refine Kd.C_alloc ?_ _) | (with_reducible refine Kd.C_drewN ?_ _) | (with_reducible refine Kd.C_drew ?_))); (case side4 => exact HC0_0.out); rintro e w59 ⟨rfl, hb⟩; have n0_ := Aside0.mk (blk_below (g := gb220) (o := .cells #[.slice A0_0 l0_0.length c0_0, .int .i64 a0_1] 35 (0, 0)) (by (with_reducible repeat (first | refine blk_drewN ?_ _ | refine blk_drew ?_ | refine blk_alloc ?_ _)); exact BK220.out) hb); have n1_ := Aside0.mk (blk_below (g := gb221) (o := .cells #[.slice A1_0 l1_0.length c1_0, .int .i64 a1_1] 35 (0, 0)) (by (with_reducible repeat (first | refine blk_drewN ?_ _ | refine blk_drew ?_ | refine blk_alloc ?_ _)); exact BK221.out) hb); have n2_ := Aside0.mk (blk_below (g := gb222) (o := .cells #[.slice A2_0 l2_0.length c2_0, .int .i64 a2_1] 35 (0, 0)) (by (with_reducible repeat (first | refine blk_drewN ?_ _ | refine blk_drew ?_ | refine blk_alloc ?_ _)); exact BK222.out) hb); have n3_ := Aside0.mk (below_step (by repeat (first | (with_reducible first | exact HB.out | apply below_alloc | apply pw_below_drewN | apply below_drew1 | refine below_set ?_ GE220.out | refine below_set ?_ GE221.out | refine below_set ?_ GE222.out) | exact HB.out)) hb); clear BK220; clear BK221; clear BK222; clear HB; have BK220 := n0_; have BK221 := n1_; have BK222 := n2_; have HB := n3_; clear n0_ n1_ n2_ n3_; (try clear hb); (try clear hb2); (try clear hk); (try clear hi)))
              go_meet
              case rel => exact ⟨_, ((t232 != 0)), (by first | rfl | (simp; done) | (simp [*]; done)), H', ⟨by have := HJ3.out; first | omega | exact Nat.le_refl _⟩, ⟨by (with_reducible repeat (first | refine blk_drewN ?_ _ | refine blk_drew ?_ | refine blk_alloc ?_ _)); exact BK220.out⟩, ⟨by (with_reducible repeat (first | refine blk_drewN ?_ _ | refine blk_drew ?_ | refine blk_alloc ?_ _)); exact BK221.out⟩, ⟨by (with_reducible repeat (first | refine blk_drewN ?_ _ | refine blk_drew ?_ | refine blk_alloc ?_ _)); exact BK222.out⟩, ⟨by repeat (first | (with_reducible first | exact HB.out | apply below_alloc | apply pw_below_drewN | apply below_drew1 | refine below_set ?_ GE220.out | refine below_set ?_ GE221.out | refine below_set ?_ GE222.out) | exact HB.out)⟩⟩
            · rw [if_neg c47] at H
              have c47b0 : (t231 == (wrap64 (-t227))) = false := beq_eq_false_iff_ne.mpr c47
              have c47b1 : (t231 != (wrap64 (-t227))) = true := bne_iff_ne.mpr c47
              have H' := Aside0.mk H
              clear H
              have hnb60 := NB220_221.out
              have hnc60 := NB221_220.out
              have hnb61 := NB220_222.out
              have hnc61 := NB222_220.out
              have hcz62_0 : w43.cell? ⟨gb220, 0, none⟩ = some (.slice A0_0 l0_0.length c0_0) := (blk_cell BK220.out 0).trans rfl
              have hcz62_1 : w43.cell? ⟨gb220, 1, none⟩ = some (.int .i64 a0_1) := (blk_cell BK220.out 1).trans rfl
              have hfz62_0 := blk_frozen BK220.out 0
              have hfz62_1 := blk_frozen BK220.out 1
              have hnb63 := NB221_222.out
              have hnc63 := NB222_221.out
              have hcz64_0 : w43.cell? ⟨gb221, 0, none⟩ = some (.slice A1_0 l1_0.length c1_0) := (blk_cell BK221.out 0).trans rfl
              have hcz64_1 : w43.cell? ⟨gb221, 1, none⟩ = some (.int .i64 a1_1) := (blk_cell BK221.out 1).trans rfl
              have hfz64_0 := blk_frozen BK221.out 0
              have hfz64_1 := blk_frozen BK221.out 1
              go_wp2_with (first | ((with_reducible refine gate_callee (f := 17) rfl ?_); refine goesL_ (some 33) rfl rfl Tryd.func17 (by kernel_rfl) rfl #[.agg #[.slice A0_0 l0_0.length c0_0, .int .i64 a0_1], .agg #[.slice A1_0 l1_0.length c1_0, .int .i64 a1_1]] rfl (by (try simp only [List.map_toArray, List.map_cons, List.map_nil]); first | done | rfl | (simp only [List.length_drop, List.length_take]; rfl)) ?_; (with_reducible refine (familycheckref01_Compare.calls kj3 _ _ l0_0 a0_1 _ _ l1_0 a1_1 t230 _ ?side1 ?side2 ?side3 ?side4 A44.out).mono ?_); (case side1 => repeat (first | exact (Kd.C_below HR0_0.out HB.out) | (with_reducible refine Kd.C_alloc ?_ _) | (with_reducible refine Kd.C_drewN ?_ _) | (with_reducible refine Kd.C_drew ?_))); (case side2 => exact HC0_0.out); (case side3 => repeat (first | exact (Kd.C_below HR1_0.out HB.out) | (with_reducible refine Kd.C_alloc ?_ _) | (with_reducible refine Kd.C_drewN ?_ _) | (with_reducible refine Kd.C_drew ?_))); (case side4 => exact HC1_0.out); rintro e w65 ⟨rfl, hb⟩; refine ⟨_, rfl, ?_⟩; have n0_ := Aside0.mk (blk_below (g := gb220) (o := .cells #[.slice A0_0 l0_0.length c0_0, .int .i64 a0_1] 35 (0, 0)) (by (with_reducible repeat (first | refine blk_drewN ?_ _ | refine blk_drew ?_ | refine blk_alloc ?_ _)); exact BK220.out) hb); have n1_ := Aside0.mk (blk_below (g := gb221) (o := .cells #[.slice A1_0 l1_0.length c1_0, .int .i64 a1_1] 35 (0, 0)) (by (with_reducible repeat (first | refine blk_drewN ?_ _ | refine blk_drew ?_ | refine blk_alloc ?_ _)); exact BK221.out) hb); have n2_ := Aside0.mk (blk_below (g := gb222) (o := .cells #[.slice A2_0 l2_0.length c2_0, .int .i64 a2_1] 35 (0, 0)) (by (with_reducible repeat (first | refine blk_drewN ?_ _ | refine blk_drew ?_ | refine blk_alloc ?_ _)); exact BK222.out) hb); have n3_ := Aside0.mk (below_step (by repeat (first | (with_reducible first | exact HB.out | apply below_alloc | apply pw_below_drewN | apply below_drew1 | refine below_set ?_ GE220.out | refine below_set ?_ GE221.out | refine below_set ?_ GE222.out) | exact HB.out)) hb); clear BK220; clear BK221; clear BK222; clear HB; have BK220 := n0_; have BK221 := n1_; have BK222 := n2_; have HB := n3_; clear n0_ n1_ n2_ n3_; (try clear hb); (try clear hb2); (try clear hk); (try clear hi); have hcz66_0 : w65.cell? ⟨gb221, 0, none⟩ = some (.slice A1_0 l1_0.length c1_0) := (blk_cell BK221.out 0).trans rfl; have hcz66_1 : w65.cell? ⟨gb221, 1, none⟩ = some (.int .i64 a1_1) := (blk_cell BK221.out 1).trans rfl; have hfz66_0 := blk_frozen BK221.out 0; have hfz66_1 := blk_frozen BK221.out 1; have hcz67_0 : w65.cell? ⟨gb220, 0, none⟩ = some (.slice A0_0 l0_0.length c0_0) := (blk_cell BK220.out 0).trans rfl; have hcz67_1 : w65.cell? ⟨gb220, 1, none⟩ = some (.int .i64 a0_1) := (blk_cell BK220.out 1).trans rfl; have hfz67_0 := blk_frozen BK220.out 0; have hfz67_1 := blk_frozen BK220.out 1) | (go_at_call 16; (with_reducible refine (linear_Compare.calls kj3 _ _ l1_0 a1_1 _ _ l0_0 a0_1 t231 _ ?side1 ?side2 ?side3 ?side4 A46.out).mono ?_); (case side1 => repeat (first | exact (Kd.C_below HR1_0.out HB.out) | (with_reducible refine Kd.C_alloc ?_ _) | (with_reducible refine Kd.C_drewN ?_ _) | (with_reducible refine Kd.C_drew ?_))); (case side2 => exact HC1_0.out); (case side3 => repeat (first | exact (Kd.C_below HR0_0.out HB.out) | (with_reducible refine Kd.C_alloc ?_ _) | (with_reducible refine Kd.C_drewN ?_ _) | (with_reducible refine Kd.C_drew ?_))); (case side4 => exact HC0_0.out); rintro e w68 ⟨rfl, hb⟩; have n0_ := Aside0.mk (blk_below (g := gb220) (o := .cells #[.slice A0_0 l0_0.length c0_0, .int .i64 a0_1] 35 (0, 0)) (by (with_reducible repeat (first | refine blk_drewN ?_ _ | refine blk_drew ?_ | refine blk_alloc ?_ _)); exact BK220.out) hb); have n1_ := Aside0.mk (blk_below (g := gb221) (o := .cells #[.slice A1_0 l1_0.length c1_0, .int .i64 a1_1] 35 (0, 0)) (by (with_reducible repeat (first | refine blk_drewN ?_ _ | refine blk_drew ?_ | refine blk_alloc ?_ _)); exact BK221.out) hb); have n2_ := Aside0.mk (blk_below (g := gb222) (o := .cells #[.slice A2_0 l2_0.length c2_0, .int .i64 a2_1] 35 (0, 0)) (by (with_reducible repeat (first | refine blk_drewN ?_ _ | refine blk_drew ?_ | refine blk_alloc ?_ _)); exact BK222.out) hb); have n3_ := Aside0.mk (below_step (by repeat (first | (with_reducible first | exact HB.out | apply below_alloc | apply pw_below_drewN | apply below_drew1 | refine below_set ?_ GE220.out | refine below_set ?_ GE221.out | refine below_set ?_ GE222.out) | exact HB.out)) hb); clear BK220; clear BK221; clear BK222; clear HB; have BK220 := n0_; have BK221 := n1_; have BK222 := n2_; have HB := n3_; clear n0_ n1_ n2_ n3_; (try clear hb); (try clear hb2); (try clear hk); (try clear hi)))
              go_meet
              case rel => exact ⟨_, (true), (by first | rfl | (simp; done) | (simp [*]; done)), H', ⟨by have := HJ3.out; first | omega | exact Nat.le_refl _⟩, ⟨by (with_reducible repeat (first | refine blk_drewN ?_ _ | refine blk_drew ?_ | refine blk_alloc ?_ _)); exact BK220.out⟩, ⟨by (with_reducible repeat (first | refine blk_drewN ?_ _ | refine blk_drew ?_ | refine blk_alloc ?_ _)); exact BK221.out⟩, ⟨by (with_reducible repeat (first | refine blk_drewN ?_ _ | refine blk_drew ?_ | refine blk_alloc ?_ _)); exact BK222.out⟩, ⟨by repeat (first | (with_reducible first | exact HB.out | apply below_alloc | apply pw_below_drewN | apply below_drew1 | refine below_set ?_ GE220.out | refine below_set ?_ GE221.out | refine below_set ?_ GE222.out) | exact HB.out)⟩⟩
          · rw [if_neg c45] at H
            have c45b0 : (t227 == t230) = false := beq_eq_false_iff_ne.mpr c45
            have c45b1 : (t227 != t230) = true := bne_iff_ne.mpr c45
            (first | rw [c45b0] | (simp only [i64_w, i32_w]; rw [c45b0]) | skip)
            have H' := Aside0.mk H
            clear H
            have hnb69 := NB220_221.out
            have hnc69 := NB221_220.out
            have hnb70 := NB220_222.out
            have hnc70 := NB222_220.out
            have hcz71_0 : w43.cell? ⟨gb220, 0, none⟩ = some (.slice A0_0 l0_0.length c0_0) := (blk_cell BK220.out 0).trans rfl
            have hcz71_1 : w43.cell? ⟨gb220, 1, none⟩ = some (.int .i64 a0_1) := (blk_cell BK220.out 1).trans rfl
            have hfz71_0 := blk_frozen BK220.out 0
            have hfz71_1 := blk_frozen BK220.out 1
            have hnb72 := NB221_222.out
            have hnc72 := NB222_221.out
            have hcz73_0 : w43.cell? ⟨gb221, 0, none⟩ = some (.slice A1_0 l1_0.length c1_0) := (blk_cell BK221.out 0).trans rfl
            have hcz73_1 : w43.cell? ⟨gb221, 1, none⟩ = some (.int .i64 a1_1) := (blk_cell BK221.out 1).trans rfl
            have hfz73_0 := blk_frozen BK221.out 0
            have hfz73_1 := blk_frozen BK221.out 1
            go_wp2_with (first | ((with_reducible refine gate_callee (f := 17) rfl ?_); refine goesL_ (some 33) rfl rfl Tryd.func17 (by kernel_rfl) rfl #[.agg #[.slice A0_0 l0_0.length c0_0, .int .i64 a0_1], .agg #[.slice A1_0 l1_0.length c1_0, .int .i64 a1_1]] rfl (by (try simp only [List.map_toArray, List.map_cons, List.map_nil]); first | done | rfl | (simp only [List.length_drop, List.length_take]; rfl)) ?_; (with_reducible refine (familycheckref01_Compare.calls kj3 _ _ l0_0 a0_1 _ _ l1_0 a1_1 t230 _ ?side1 ?side2 ?side3 ?side4 A44.out).mono ?_); (case side1 => repeat (first | exact (Kd.C_below HR0_0.out HB.out) | (with_reducible refine Kd.C_alloc ?_ _) | (with_reducible refine Kd.C_drewN ?_ _) | (with_reducible refine Kd.C_drew ?_))); (case side2 => exact HC0_0.out); (case side3 => repeat (first | exact (Kd.C_below HR1_0.out HB.out) | (with_reducible refine Kd.C_alloc ?_ _) | (with_reducible refine Kd.C_drewN ?_ _) | (with_reducible refine Kd.C_drew ?_))); (case side4 => exact HC1_0.out); rintro e w74 ⟨rfl, hb⟩; refine ⟨_, rfl, ?_⟩; have n0_ := Aside0.mk (blk_below (g := gb220) (o := .cells #[.slice A0_0 l0_0.length c0_0, .int .i64 a0_1] 35 (0, 0)) (by (with_reducible repeat (first | refine blk_drewN ?_ _ | refine blk_drew ?_ | refine blk_alloc ?_ _)); exact BK220.out) hb); have n1_ := Aside0.mk (blk_below (g := gb221) (o := .cells #[.slice A1_0 l1_0.length c1_0, .int .i64 a1_1] 35 (0, 0)) (by (with_reducible repeat (first | refine blk_drewN ?_ _ | refine blk_drew ?_ | refine blk_alloc ?_ _)); exact BK221.out) hb); have n2_ := Aside0.mk (blk_below (g := gb222) (o := .cells #[.slice A2_0 l2_0.length c2_0, .int .i64 a2_1] 35 (0, 0)) (by (with_reducible repeat (first | refine blk_drewN ?_ _ | refine blk_drew ?_ | refine blk_alloc ?_ _)); exact BK222.out) hb); have n3_ := Aside0.mk (below_step (by repeat (first | (with_reducible first | exact HB.out | apply below_alloc | apply pw_below_drewN | apply below_drew1 | refine below_set ?_ GE220.out | refine below_set ?_ GE221.out | refine below_set ?_ GE222.out) | exact HB.out)) hb); clear BK220; clear BK221; clear BK222; clear HB; have BK220 := n0_; have BK221 := n1_; have BK222 := n2_; have HB := n3_; clear n0_ n1_ n2_ n3_; (try clear hb); (try clear hb2); (try clear hk); (try clear hi)))
            go_meet
            case rel => exact ⟨_, (true), (by first | rfl | (simp; done) | (simp [*]; done)), H', ⟨by have := HJ3.out; first | omega | exact Nat.le_refl _⟩, ⟨by (with_reducible repeat (first | refine blk_drewN ?_ _ | refine blk_drew ?_ | refine blk_alloc ?_ _)); exact BK220.out⟩, ⟨by (with_reducible repeat (first | refine blk_drewN ?_ _ | refine blk_drew ?_ | refine blk_alloc ?_ _)); exact BK221.out⟩, ⟨by (with_reducible repeat (first | refine blk_drewN ?_ _ | refine blk_drew ?_ | refine blk_alloc ?_ _)); exact BK222.out⟩, ⟨by repeat (first | (with_reducible first | exact HB.out | apply below_alloc | apply pw_below_drewN | apply below_drew1 | refine below_set ?_ GE220.out | refine below_set ?_ GE221.out | refine below_set ?_ GE222.out) | exact HB.out)⟩⟩
        case rest =>
          clear HC39
          try clear c1
          try clear c2
          try clear p2
          try clear c3
          try clear c4
          try clear c5
          try clear c6
          try clear p6
          try clear c7
          try clear c9
          try clear c10
          try clear c11
          try clear c15
          try clear c16
          try clear c17
          try clear c20
          try clear c24
          try clear c25
          try clear c28
          try clear c33
          try clear c45
          try clear c45b0
          try clear c45b1
          try clear c47
          try clear c47b0
          try clear c47b1
          try clear c49
          try clear c50
          try clear c52
          try clear c60
          try clear c61
          try clear c63
          try clear p64
          try clear c69
          try clear c70
          try clear c72
          try clear hcz12_0
          try clear hcz12_1
          try clear hcz18_0
          try clear hcz18_1
          try clear hcz21_0
          try clear hcz21_1
          try clear hcz26_0
          try clear hcz26_1
          try clear hcz29_0
          try clear hcz29_1
          try clear hcz31_0
          try clear hcz31_1
          try clear hcz51_0
          try clear hcz51_1
          try clear hcz53_0
          try clear hcz53_1
          try clear hcz55_0
          try clear hcz55_1
          try clear hcz56_0
          try clear hcz56_1
          try clear hcz58_0
          try clear hcz58_1
          try clear hcz62_0
          try clear hcz62_1
          try clear hcz64_0
          try clear hcz64_1
          try clear hcz66_0
          try clear hcz66_1
          try clear hcz67_0
          try clear hcz67_1
          try clear hcz71_0
          try clear hcz71_1
          try clear hcz73_0
          try clear hcz73_1
          try clear hfz12_0
          try clear hfz12_1
          try clear hfz18_0
          try clear hfz18_1
          try clear hfz21_0
          try clear hfz21_1
          try clear hfz26_0
          try clear hfz26_1
          try clear hfz29_0
          try clear hfz29_1
          try clear hfz31_0
          try clear hfz31_1
          try clear hfz51_0
          try clear hfz51_1
          try clear hfz53_0
          try clear hfz53_1
          try clear hfz55_0
          try clear hfz55_1
          try clear hfz56_0
          try clear hfz56_1
          try clear hfz58_0
          try clear hfz58_1
          try clear hfz62_0
          try clear hfz62_1
          try clear hfz64_0
          try clear hfz64_1
          try clear hfz66_0
          try clear hfz66_1
          try clear hfz67_0
          try clear hfz67_1
          try clear hfz71_0
          try clear hfz71_1
          try clear hfz73_0
          try clear hfz73_1
          try clear p2
          obtain ⟨kq, x48_38, rfl, HA, HJ38, BK220, BK221, BK222, HB⟩ := hcut
          cases kq with
          | zero => exact absurd HA.out (by simp [familychecklaw01_LinearCompares.j1])
          | succ kj38 =>
            have H := HA.out
            clear HA
            simp only [familychecklaw01_LinearCompares.j1] at H
            by_cases c75 : x48_38 = true
            · subst c75
              have H1 : (some false) = some r := by rw [if_pos rfl] at H; exact H
              clear H
              have H := H1
              clear H1
              obtain rfl := Option.some.inj H
              go_wp2
              go_ret
              exact ⟨by first | rfl | (simp [errW_none, errW_some] <;> rfl) | (simp [*, errW_none, errW_some] <;> rfl), by repeat (first | (with_reducible first | exact HB.out | apply below_alloc | apply pw_below_drewN | apply below_drew1 | refine below_set ?_ GE220.out | refine below_set ?_ GE221.out | refine below_set ?_ GE222.out) | exact HB.out)⟩
            · replace c75 := Bool.eq_false_iff.mpr c75
              subst c75
              have H1 : (if t227 > 0 then (if t227 = 0 then ((familycheckref01_SameRow.f kj38 l0_0 a0_1 l1_0 a1_1).bind fun t233 => (if t233 = true then ((familychecklaw01_known.f kj38).bind fun t234 => (some t234)) else (some false))) else ((familychecklaw01_known.f kj38).bind fun t235 => (some t235))) else (if t228 > 0 then (if t227 = 0 then ((familycheckref01_SameRow.f kj38 l0_0 a0_1 l1_0 a1_1).bind fun t236 => (if t236 = true then ((familychecklaw01_known.f kj38).bind fun t237 => (some t237)) else (some false))) else ((familychecklaw01_known.f kj38).bind fun t238 => (some t238))) else (if t229 ≤ 0 then (if t227 = 0 then ((familycheckref01_SameRow.f kj38 l0_0 a0_1 l1_0 a1_1).bind fun t239 => (if t239 = true then ((familychecklaw01_known.f kj38).bind fun t240 => (some t240)) else (some false))) else ((familychecklaw01_known.f kj38).bind fun t241 => (some t241))) else (some false)))) = some r := by rw [if_neg (show ¬ (false = true) by decide)] at H; exact H
              clear H
              have H := H1
              clear H1
              by_cases c76 : t227 > 0
              · rw [if_pos c76] at H
                have c76b0 : decide (0 < t227) = true := decide_eq_true c76
                clear c76
                by_cases c77 : t227 = 0
                · rw [if_pos c77] at H
                  have c77b0 : (t227 == 0) = true := beq_iff_eq.mpr c77
                  have c77b1 : (t227 != 0) = false := bne_eq_false_iff_eq.mpr c77
                  clear c77
                  replace H := Option.bind_eq_some_iff.mp H
                  obtain ⟨t233, A780, H⟩ := H
                  replace H : (if t233 = true then ((familychecklaw01_known.f kj38).bind fun t234 => (some t234)) else (some false)) = some r := H
                  have A78 := Aside0.mk A780
                  clear A780
                  by_cases c79 : t233 = true
                  · subst c79
                    have H1 : ((familychecklaw01_known.f kj38).bind fun t234 => (some t234)) = some r := by rw [if_pos rfl] at H; exact H
                    clear H
                    have H := H1
                    clear H1
                    replace H := Option.bind_eq_some_iff.mp H
                    obtain ⟨t234, A800, H⟩ := H
                    replace H : (some t234) = some r := H
                    have A80 := Aside0.mk A800
                    clear A800
                    obtain rfl := Option.some.inj H
                    have hnb81 := NB220_221.out
                    have hnc81 := NB221_220.out
                    have hnb82 := NB220_222.out
                    have hnc82 := NB222_220.out
                    have hcz83_0 : wc.cell? ⟨gb220, 0, none⟩ = some (.slice A0_0 l0_0.length c0_0) := (blk_cell BK220.out 0).trans rfl
                    have hcz83_1 : wc.cell? ⟨gb220, 1, none⟩ = some (.int .i64 a0_1) := (blk_cell BK220.out 1).trans rfl
                    have hfz83_0 := blk_frozen BK220.out 0
                    have hfz83_1 := blk_frozen BK220.out 1
                    have hnb84 := NB221_222.out
                    have hnc84 := NB222_221.out
                    have hcz85_0 : wc.cell? ⟨gb221, 0, none⟩ = some (.slice A1_0 l1_0.length c1_0) := (blk_cell BK221.out 0).trans rfl
                    have hcz85_1 : wc.cell? ⟨gb221, 1, none⟩ = some (.int .i64 a1_1) := (blk_cell BK221.out 1).trans rfl
                    have hfz85_0 := blk_frozen BK221.out 0
                    have hfz85_1 := blk_frozen BK221.out 1
                    go_wp2_with (first | (go_at_call 18; (with_reducible refine (familycheckref01_SameRow.calls kj38 _ _ l0_0 a0_1 _ _ l1_0 a1_1 true _ ?side1 ?side2 ?side3 ?side4 A78.out).mono ?_); (case side1 => repeat (first | exact (Kd.C_below HR0_0.out HB.out) | (with_reducible refine Kd.C_alloc ?_ _) | (with_reducible refine Kd.C_drewN ?_ _) | (with_reducible refine Kd.C_drew ?_))); (case side2 => exact HC0_0.out); (case side3 => repeat (first | exact (Kd.C_below HR1_0.out HB.out) | (with_reducible refine Kd.C_alloc ?_ _) | (with_reducible refine Kd.C_drewN ?_ _) | (with_reducible refine Kd.C_drew ?_))); (case side4 => exact HC1_0.out); rintro e w86 ⟨rfl, hb⟩; have n0_ := Aside0.mk (blk_below (g := gb220) (o := .cells #[.slice A0_0 l0_0.length c0_0, .int .i64 a0_1] 35 (0, 0)) (by (with_reducible repeat (first | refine blk_drewN ?_ _ | refine blk_drew ?_ | refine blk_alloc ?_ _)); exact BK220.out) hb); have n1_ := Aside0.mk (blk_below (g := gb221) (o := .cells #[.slice A1_0 l1_0.length c1_0, .int .i64 a1_1] 35 (0, 0)) (by (with_reducible repeat (first | refine blk_drewN ?_ _ | refine blk_drew ?_ | refine blk_alloc ?_ _)); exact BK221.out) hb); have n2_ := Aside0.mk (blk_below (g := gb222) (o := .cells #[.slice A2_0 l2_0.length c2_0, .int .i64 a2_1] 35 (0, 0)) (by (with_reducible repeat (first | refine blk_drewN ?_ _ | refine blk_drew ?_ | refine blk_alloc ?_ _)); exact BK222.out) hb); have n3_ := Aside0.mk (below_step (by repeat (first | (with_reducible first | exact HB.out | apply below_alloc | apply pw_below_drewN | apply below_drew1 | refine below_set ?_ GE220.out | refine below_set ?_ GE221.out | refine below_set ?_ GE222.out) | exact HB.out)) hb); clear BK220; clear BK221; clear BK222; clear HB; have BK220 := n0_; have BK221 := n1_; have BK222 := n2_; have HB := n3_; clear n0_ n1_ n2_ n3_; (try clear hb); (try clear hb2); (try clear hk); (try clear hi)) | (go_at_call 11; (with_reducible refine (familychecklaw01_known.calls kj38  t234 _ A80.out).mono ?_); rintro e w87 ⟨rfl, hb⟩; have n0_ := Aside0.mk (blk_below (g := gb220) (o := .cells #[.slice A0_0 l0_0.length c0_0, .int .i64 a0_1] 35 (0, 0)) (by (with_reducible repeat (first | refine blk_drewN ?_ _ | refine blk_drew ?_ | refine blk_alloc ?_ _)); exact BK220.out) hb); have n1_ := Aside0.mk (blk_below (g := gb221) (o := .cells #[.slice A1_0 l1_0.length c1_0, .int .i64 a1_1] 35 (0, 0)) (by (with_reducible repeat (first | refine blk_drewN ?_ _ | refine blk_drew ?_ | refine blk_alloc ?_ _)); exact BK221.out) hb); have n2_ := Aside0.mk (blk_below (g := gb222) (o := .cells #[.slice A2_0 l2_0.length c2_0, .int .i64 a2_1] 35 (0, 0)) (by (with_reducible repeat (first | refine blk_drewN ?_ _ | refine blk_drew ?_ | refine blk_alloc ?_ _)); exact BK222.out) hb); have n3_ := Aside0.mk (below_step (by repeat (first | (with_reducible first | exact HB.out | apply below_alloc | apply pw_below_drewN | apply below_drew1 | refine below_set ?_ GE220.out | refine below_set ?_ GE221.out | refine below_set ?_ GE222.out) | exact HB.out)) hb); clear BK220; clear BK221; clear BK222; clear HB; have BK220 := n0_; have BK221 := n1_; have BK222 := n2_; have HB := n3_; clear n0_ n1_ n2_ n3_; (try clear hb); (try clear hb2); (try clear hk); (try clear hi)))
                    go_ret
                    exact ⟨by first | rfl | (simp [errW_none, errW_some] <;> rfl) | (simp [*, errW_none, errW_some] <;> rfl), by repeat (first | (with_reducible first | exact HB.out | apply below_alloc | apply pw_below_drewN | apply below_drew1 | refine below_set ?_ GE220.out | refine below_set ?_ GE221.out | refine below_set ?_ GE222.out) | exact HB.out)⟩
                  · replace c79 := Bool.eq_false_iff.mpr c79
                    subst c79
                    have H1 : (some false) = some r := by rw [if_neg (show ¬ (false = true) by decide)] at H; exact H
                    clear H
                    have H := H1
                    clear H1
                    obtain rfl := Option.some.inj H
                    have hnb88 := NB220_221.out
                    have hnc88 := NB221_220.out
                    have hnb89 := NB220_222.out
                    have hnc89 := NB222_220.out
                    have hcz90_0 : wc.cell? ⟨gb220, 0, none⟩ = some (.slice A0_0 l0_0.length c0_0) := (blk_cell BK220.out 0).trans rfl
                    have hcz90_1 : wc.cell? ⟨gb220, 1, none⟩ = some (.int .i64 a0_1) := (blk_cell BK220.out 1).trans rfl
                    have hfz90_0 := blk_frozen BK220.out 0
                    have hfz90_1 := blk_frozen BK220.out 1
                    have hnb91 := NB221_222.out
                    have hnc91 := NB222_221.out
                    have hcz92_0 : wc.cell? ⟨gb221, 0, none⟩ = some (.slice A1_0 l1_0.length c1_0) := (blk_cell BK221.out 0).trans rfl
                    have hcz92_1 : wc.cell? ⟨gb221, 1, none⟩ = some (.int .i64 a1_1) := (blk_cell BK221.out 1).trans rfl
                    have hfz92_0 := blk_frozen BK221.out 0
                    have hfz92_1 := blk_frozen BK221.out 1
                    go_wp2_with (first | (go_at_call 18; (with_reducible refine (familycheckref01_SameRow.calls kj38 _ _ l0_0 a0_1 _ _ l1_0 a1_1 false _ ?side1 ?side2 ?side3 ?side4 A78.out).mono ?_); (case side1 => repeat (first | exact (Kd.C_below HR0_0.out HB.out) | (with_reducible refine Kd.C_alloc ?_ _) | (with_reducible refine Kd.C_drewN ?_ _) | (with_reducible refine Kd.C_drew ?_))); (case side2 => exact HC0_0.out); (case side3 => repeat (first | exact (Kd.C_below HR1_0.out HB.out) | (with_reducible refine Kd.C_alloc ?_ _) | (with_reducible refine Kd.C_drewN ?_ _) | (with_reducible refine Kd.C_drew ?_))); (case side4 => exact HC1_0.out); rintro e w93 ⟨rfl, hb⟩; have n0_ := Aside0.mk (blk_below (g := gb220) (o := .cells #[.slice A0_0 l0_0.length c0_0, .int .i64 a0_1] 35 (0, 0)) (by (with_reducible repeat (first | refine blk_drewN ?_ _ | refine blk_drew ?_ | refine blk_alloc ?_ _)); exact BK220.out) hb); have n1_ := Aside0.mk (blk_below (g := gb221) (o := .cells #[.slice A1_0 l1_0.length c1_0, .int .i64 a1_1] 35 (0, 0)) (by (with_reducible repeat (first | refine blk_drewN ?_ _ | refine blk_drew ?_ | refine blk_alloc ?_ _)); exact BK221.out) hb); have n2_ := Aside0.mk (blk_below (g := gb222) (o := .cells #[.slice A2_0 l2_0.length c2_0, .int .i64 a2_1] 35 (0, 0)) (by (with_reducible repeat (first | refine blk_drewN ?_ _ | refine blk_drew ?_ | refine blk_alloc ?_ _)); exact BK222.out) hb); have n3_ := Aside0.mk (below_step (by repeat (first | (with_reducible first | exact HB.out | apply below_alloc | apply pw_below_drewN | apply below_drew1 | refine below_set ?_ GE220.out | refine below_set ?_ GE221.out | refine below_set ?_ GE222.out) | exact HB.out)) hb); clear BK220; clear BK221; clear BK222; clear HB; have BK220 := n0_; have BK221 := n1_; have BK222 := n2_; have HB := n3_; clear n0_ n1_ n2_ n3_; (try clear hb); (try clear hb2); (try clear hk); (try clear hi)))
                    go_ret
                    exact ⟨by first | rfl | (simp [errW_none, errW_some] <;> rfl) | (simp [*, errW_none, errW_some] <;> rfl), by repeat (first | (with_reducible first | exact HB.out | apply below_alloc | apply pw_below_drewN | apply below_drew1 | refine below_set ?_ GE220.out | refine below_set ?_ GE221.out | refine below_set ?_ GE222.out) | exact HB.out)⟩
                · rw [if_neg c77] at H
                  have c77b0 : (t227 == 0) = false := beq_eq_false_iff_ne.mpr c77
                  have c77b1 : (t227 != 0) = true := bne_iff_ne.mpr c77
                  replace H := Option.bind_eq_some_iff.mp H
                  obtain ⟨t235, A940, H⟩ := H
                  replace H : (some t235) = some r := H
                  have A94 := Aside0.mk A940
                  clear A940
                  obtain rfl := Option.some.inj H
                  go_wp2_with (first | (go_at_call 11; (with_reducible refine (familychecklaw01_known.calls kj38  t235 _ A94.out).mono ?_); rintro e w95 ⟨rfl, hb⟩; have n0_ := Aside0.mk (blk_below (g := gb220) (o := .cells #[.slice A0_0 l0_0.length c0_0, .int .i64 a0_1] 35 (0, 0)) (by (with_reducible repeat (first | refine blk_drewN ?_ _ | refine blk_drew ?_ | refine blk_alloc ?_ _)); exact BK220.out) hb); have n1_ := Aside0.mk (blk_below (g := gb221) (o := .cells #[.slice A1_0 l1_0.length c1_0, .int .i64 a1_1] 35 (0, 0)) (by (with_reducible repeat (first | refine blk_drewN ?_ _ | refine blk_drew ?_ | refine blk_alloc ?_ _)); exact BK221.out) hb); have n2_ := Aside0.mk (blk_below (g := gb222) (o := .cells #[.slice A2_0 l2_0.length c2_0, .int .i64 a2_1] 35 (0, 0)) (by (with_reducible repeat (first | refine blk_drewN ?_ _ | refine blk_drew ?_ | refine blk_alloc ?_ _)); exact BK222.out) hb); have n3_ := Aside0.mk (below_step (by repeat (first | (with_reducible first | exact HB.out | apply below_alloc | apply pw_below_drewN | apply below_drew1 | refine below_set ?_ GE220.out | refine below_set ?_ GE221.out | refine below_set ?_ GE222.out) | exact HB.out)) hb); clear BK220; clear BK221; clear BK222; clear HB; have BK220 := n0_; have BK221 := n1_; have BK222 := n2_; have HB := n3_; clear n0_ n1_ n2_ n3_; (try clear hb); (try clear hb2); (try clear hk); (try clear hi)))
                  go_ret
                  exact ⟨by first | rfl | (simp [errW_none, errW_some] <;> rfl) | (simp [*, errW_none, errW_some] <;> rfl), by repeat (first | (with_reducible first | exact HB.out | apply below_alloc | apply pw_below_drewN | apply below_drew1 | refine below_set ?_ GE220.out | refine below_set ?_ GE221.out | refine below_set ?_ GE222.out) | exact HB.out)⟩
              · rw [if_neg c76] at H
                have c76b0 : decide (0 < t227) = false := decide_eq_false c76
                clear c76
                by_cases c96 : t228 > 0
                · rw [if_pos c96] at H
                  have c96b0 : decide (0 < t228) = true := decide_eq_true c96
                  clear c96
                  by_cases c97 : t227 = 0
                  · rw [if_pos c97] at H
                    have c97b0 : (t227 == 0) = true := beq_iff_eq.mpr c97
                    have c97b1 : (t227 != 0) = false := bne_eq_false_iff_eq.mpr c97
                    clear c97
                    replace H := Option.bind_eq_some_iff.mp H
                    obtain ⟨t236, A980, H⟩ := H
                    replace H : (if t236 = true then ((familychecklaw01_known.f kj38).bind fun t237 => (some t237)) else (some false)) = some r := H
                    have A98 := Aside0.mk A980
                    clear A980
                    by_cases c99 : t236 = true
                    · subst c99
                      have H1 : ((familychecklaw01_known.f kj38).bind fun t237 => (some t237)) = some r := by rw [if_pos rfl] at H; exact H
                      clear H
                      have H := H1
                      clear H1
                      replace H := Option.bind_eq_some_iff.mp H
                      obtain ⟨t237, A1000, H⟩ := H
                      replace H : (some t237) = some r := H
                      have A100 := Aside0.mk A1000
                      clear A1000
                      obtain rfl := Option.some.inj H
                      have hnb101 := NB220_221.out
                      have hnc101 := NB221_220.out
                      have hnb102 := NB220_222.out
                      have hnc102 := NB222_220.out
                      have hcz103_0 : wc.cell? ⟨gb220, 0, none⟩ = some (.slice A0_0 l0_0.length c0_0) := (blk_cell BK220.out 0).trans rfl
                      have hcz103_1 : wc.cell? ⟨gb220, 1, none⟩ = some (.int .i64 a0_1) := (blk_cell BK220.out 1).trans rfl
                      have hfz103_0 := blk_frozen BK220.out 0
                      have hfz103_1 := blk_frozen BK220.out 1
                      have hnb104 := NB221_222.out
                      have hnc104 := NB222_221.out
                      have hcz105_0 : wc.cell? ⟨gb221, 0, none⟩ = some (.slice A1_0 l1_0.length c1_0) := (blk_cell BK221.out 0).trans rfl
                      have hcz105_1 : wc.cell? ⟨gb221, 1, none⟩ = some (.int .i64 a1_1) := (blk_cell BK221.out 1).trans rfl
                      have hfz105_0 := blk_frozen BK221.out 0
                      have hfz105_1 := blk_frozen BK221.out 1
                      go_wp2_with (first | (go_at_call 18; (with_reducible refine (familycheckref01_SameRow.calls kj38 _ _ l0_0 a0_1 _ _ l1_0 a1_1 true _ ?side1 ?side2 ?side3 ?side4 A98.out).mono ?_); (case side1 => repeat (first | exact (Kd.C_below HR0_0.out HB.out) | (with_reducible refine Kd.C_alloc ?_ _) | (with_reducible refine Kd.C_drewN ?_ _) | (with_reducible refine Kd.C_drew ?_))); (case side2 => exact HC0_0.out); (case side3 => repeat (first | exact (Kd.C_below HR1_0.out HB.out) | (with_reducible refine Kd.C_alloc ?_ _) | (with_reducible refine Kd.C_drewN ?_ _) | (with_reducible refine Kd.C_drew ?_))); (case side4 => exact HC1_0.out); rintro e w106 ⟨rfl, hb⟩; have n0_ := Aside0.mk (blk_below (g := gb220) (o := .cells #[.slice A0_0 l0_0.length c0_0, .int .i64 a0_1] 35 (0, 0)) (by (with_reducible repeat (first | refine blk_drewN ?_ _ | refine blk_drew ?_ | refine blk_alloc ?_ _)); exact BK220.out) hb); have n1_ := Aside0.mk (blk_below (g := gb221) (o := .cells #[.slice A1_0 l1_0.length c1_0, .int .i64 a1_1] 35 (0, 0)) (by (with_reducible repeat (first | refine blk_drewN ?_ _ | refine blk_drew ?_ | refine blk_alloc ?_ _)); exact BK221.out) hb); have n2_ := Aside0.mk (blk_below (g := gb222) (o := .cells #[.slice A2_0 l2_0.length c2_0, .int .i64 a2_1] 35 (0, 0)) (by (with_reducible repeat (first | refine blk_drewN ?_ _ | refine blk_drew ?_ | refine blk_alloc ?_ _)); exact BK222.out) hb); have n3_ := Aside0.mk (below_step (by repeat (first | (with_reducible first | exact HB.out | apply below_alloc | apply pw_below_drewN | apply below_drew1 | refine below_set ?_ GE220.out | refine below_set ?_ GE221.out | refine below_set ?_ GE222.out) | exact HB.out)) hb); clear BK220; clear BK221; clear BK222; clear HB; have BK220 := n0_; have BK221 := n1_; have BK222 := n2_; have HB := n3_; clear n0_ n1_ n2_ n3_; (try clear hb); (try clear hb2); (try clear hk); (try clear hi)) | (go_at_call 11; (with_reducible refine (familychecklaw01_known.calls kj38  t237 _ A100.out).mono ?_); rintro e w107 ⟨rfl, hb⟩; have n0_ := Aside0.mk (blk_below (g := gb220) (o := .cells #[.slice A0_0 l0_0.length c0_0, .int .i64 a0_1] 35 (0, 0)) (by (with_reducible repeat (first | refine blk_drewN ?_ _ | refine blk_drew ?_ | refine blk_alloc ?_ _)); exact BK220.out) hb); have n1_ := Aside0.mk (blk_below (g := gb221) (o := .cells #[.slice A1_0 l1_0.length c1_0, .int .i64 a1_1] 35 (0, 0)) (by (with_reducible repeat (first | refine blk_drewN ?_ _ | refine blk_drew ?_ | refine blk_alloc ?_ _)); exact BK221.out) hb); have n2_ := Aside0.mk (blk_below (g := gb222) (o := .cells #[.slice A2_0 l2_0.length c2_0, .int .i64 a2_1] 35 (0, 0)) (by (with_reducible repeat (first | refine blk_drewN ?_ _ | refine blk_drew ?_ | refine blk_alloc ?_ _)); exact BK222.out) hb); have n3_ := Aside0.mk (below_step (by repeat (first | (with_reducible first | exact HB.out | apply below_alloc | apply pw_below_drewN | apply below_drew1 | refine below_set ?_ GE220.out | refine below_set ?_ GE221.out | refine below_set ?_ GE222.out) | exact HB.out)) hb); clear BK220; clear BK221; clear BK222; clear HB; have BK220 := n0_; have BK221 := n1_; have BK222 := n2_; have HB := n3_; clear n0_ n1_ n2_ n3_; (try clear hb); (try clear hb2); (try clear hk); (try clear hi)))
                      go_ret
                      exact ⟨by first | rfl | (simp [errW_none, errW_some] <;> rfl) | (simp [*, errW_none, errW_some] <;> rfl), by repeat (first | (with_reducible first | exact HB.out | apply below_alloc | apply pw_below_drewN | apply below_drew1 | refine below_set ?_ GE220.out | refine below_set ?_ GE221.out | refine below_set ?_ GE222.out) | exact HB.out)⟩
                    · replace c99 := Bool.eq_false_iff.mpr c99
                      subst c99
                      have H1 : (some false) = some r := by rw [if_neg (show ¬ (false = true) by decide)] at H; exact H
                      clear H
                      have H := H1
                      clear H1
                      obtain rfl := Option.some.inj H
                      have hnb108 := NB220_221.out
                      have hnc108 := NB221_220.out
                      have hnb109 := NB220_222.out
                      have hnc109 := NB222_220.out
                      have hcz110_0 : wc.cell? ⟨gb220, 0, none⟩ = some (.slice A0_0 l0_0.length c0_0) := (blk_cell BK220.out 0).trans rfl
                      have hcz110_1 : wc.cell? ⟨gb220, 1, none⟩ = some (.int .i64 a0_1) := (blk_cell BK220.out 1).trans rfl
                      have hfz110_0 := blk_frozen BK220.out 0
                      have hfz110_1 := blk_frozen BK220.out 1
                      have hnb111 := NB221_222.out
                      have hnc111 := NB222_221.out
                      have hcz112_0 : wc.cell? ⟨gb221, 0, none⟩ = some (.slice A1_0 l1_0.length c1_0) := (blk_cell BK221.out 0).trans rfl
                      have hcz112_1 : wc.cell? ⟨gb221, 1, none⟩ = some (.int .i64 a1_1) := (blk_cell BK221.out 1).trans rfl
                      have hfz112_0 := blk_frozen BK221.out 0
                      have hfz112_1 := blk_frozen BK221.out 1
                      go_wp2_with (first | (go_at_call 18; (with_reducible refine (familycheckref01_SameRow.calls kj38 _ _ l0_0 a0_1 _ _ l1_0 a1_1 false _ ?side1 ?side2 ?side3 ?side4 A98.out).mono ?_); (case side1 => repeat (first | exact (Kd.C_below HR0_0.out HB.out) | (with_reducible refine Kd.C_alloc ?_ _) | (with_reducible refine Kd.C_drewN ?_ _) | (with_reducible refine Kd.C_drew ?_))); (case side2 => exact HC0_0.out); (case side3 => repeat (first | exact (Kd.C_below HR1_0.out HB.out) | (with_reducible refine Kd.C_alloc ?_ _) | (with_reducible refine Kd.C_drewN ?_ _) | (with_reducible refine Kd.C_drew ?_))); (case side4 => exact HC1_0.out); rintro e w113 ⟨rfl, hb⟩; have n0_ := Aside0.mk (blk_below (g := gb220) (o := .cells #[.slice A0_0 l0_0.length c0_0, .int .i64 a0_1] 35 (0, 0)) (by (with_reducible repeat (first | refine blk_drewN ?_ _ | refine blk_drew ?_ | refine blk_alloc ?_ _)); exact BK220.out) hb); have n1_ := Aside0.mk (blk_below (g := gb221) (o := .cells #[.slice A1_0 l1_0.length c1_0, .int .i64 a1_1] 35 (0, 0)) (by (with_reducible repeat (first | refine blk_drewN ?_ _ | refine blk_drew ?_ | refine blk_alloc ?_ _)); exact BK221.out) hb); have n2_ := Aside0.mk (blk_below (g := gb222) (o := .cells #[.slice A2_0 l2_0.length c2_0, .int .i64 a2_1] 35 (0, 0)) (by (with_reducible repeat (first | refine blk_drewN ?_ _ | refine blk_drew ?_ | refine blk_alloc ?_ _)); exact BK222.out) hb); have n3_ := Aside0.mk (below_step (by repeat (first | (with_reducible first | exact HB.out | apply below_alloc | apply pw_below_drewN | apply below_drew1 | refine below_set ?_ GE220.out | refine below_set ?_ GE221.out | refine below_set ?_ GE222.out) | exact HB.out)) hb); clear BK220; clear BK221; clear BK222; clear HB; have BK220 := n0_; have BK221 := n1_; have BK222 := n2_; have HB := n3_; clear n0_ n1_ n2_ n3_; (try clear hb); (try clear hb2); (try clear hk); (try clear hi)))
                      go_ret
                      exact ⟨by first | rfl | (simp [errW_none, errW_some] <;> rfl) | (simp [*, errW_none, errW_some] <;> rfl), by repeat (first | (with_reducible first | exact HB.out | apply below_alloc | apply pw_below_drewN | apply below_drew1 | refine below_set ?_ GE220.out | refine below_set ?_ GE221.out | refine below_set ?_ GE222.out) | exact HB.out)⟩
                  · rw [if_neg c97] at H
                    have c97b0 : (t227 == 0) = false := beq_eq_false_iff_ne.mpr c97
                    have c97b1 : (t227 != 0) = true := bne_iff_ne.mpr c97
                    replace H := Option.bind_eq_some_iff.mp H
                    obtain ⟨t238, A1140, H⟩ := H
                    replace H : (some t238) = some r := H
                    have A114 := Aside0.mk A1140
                    clear A1140
                    obtain rfl := Option.some.inj H
                    go_wp2_with (first | (go_at_call 11; (with_reducible refine (familychecklaw01_known.calls kj38  t238 _ A114.out).mono ?_); rintro e w115 ⟨rfl, hb⟩; have n0_ := Aside0.mk (blk_below (g := gb220) (o := .cells #[.slice A0_0 l0_0.length c0_0, .int .i64 a0_1] 35 (0, 0)) (by (with_reducible repeat (first | refine blk_drewN ?_ _ | refine blk_drew ?_ | refine blk_alloc ?_ _)); exact BK220.out) hb); have n1_ := Aside0.mk (blk_below (g := gb221) (o := .cells #[.slice A1_0 l1_0.length c1_0, .int .i64 a1_1] 35 (0, 0)) (by (with_reducible repeat (first | refine blk_drewN ?_ _ | refine blk_drew ?_ | refine blk_alloc ?_ _)); exact BK221.out) hb); have n2_ := Aside0.mk (blk_below (g := gb222) (o := .cells #[.slice A2_0 l2_0.length c2_0, .int .i64 a2_1] 35 (0, 0)) (by (with_reducible repeat (first | refine blk_drewN ?_ _ | refine blk_drew ?_ | refine blk_alloc ?_ _)); exact BK222.out) hb); have n3_ := Aside0.mk (below_step (by repeat (first | (with_reducible first | exact HB.out | apply below_alloc | apply pw_below_drewN | apply below_drew1 | refine below_set ?_ GE220.out | refine below_set ?_ GE221.out | refine below_set ?_ GE222.out) | exact HB.out)) hb); clear BK220; clear BK221; clear BK222; clear HB; have BK220 := n0_; have BK221 := n1_; have BK222 := n2_; have HB := n3_; clear n0_ n1_ n2_ n3_; (try clear hb); (try clear hb2); (try clear hk); (try clear hi)))
                    go_ret
                    exact ⟨by first | rfl | (simp [errW_none, errW_some] <;> rfl) | (simp [*, errW_none, errW_some] <;> rfl), by repeat (first | (with_reducible first | exact HB.out | apply below_alloc | apply pw_below_drewN | apply below_drew1 | refine below_set ?_ GE220.out | refine below_set ?_ GE221.out | refine below_set ?_ GE222.out) | exact HB.out)⟩
                · rw [if_neg c96] at H
                  have c96b0 : decide (0 < t228) = false := decide_eq_false c96
                  clear c96
                  by_cases c116 : t229 ≤ 0
                  · rw [if_pos c116] at H
                    have c116b0 : decide (t229 ≤ 0) = true := decide_eq_true c116
                    clear c116
                    by_cases c117 : t227 = 0
                    · rw [if_pos c117] at H
                      have c117b0 : (t227 == 0) = true := beq_iff_eq.mpr c117
                      have c117b1 : (t227 != 0) = false := bne_eq_false_iff_eq.mpr c117
                      clear c117
                      replace H := Option.bind_eq_some_iff.mp H
                      obtain ⟨t239, A1180, H⟩ := H
                      replace H : (if t239 = true then ((familychecklaw01_known.f kj38).bind fun t240 => (some t240)) else (some false)) = some r := H
                      have A118 := Aside0.mk A1180
                      clear A1180
                      by_cases c119 : t239 = true
                      · subst c119
                        have H1 : ((familychecklaw01_known.f kj38).bind fun t240 => (some t240)) = some r := by rw [if_pos rfl] at H; exact H
                        clear H
                        have H := H1
                        clear H1
                        replace H := Option.bind_eq_some_iff.mp H
                        obtain ⟨t240, A1200, H⟩ := H
                        replace H : (some t240) = some r := H
                        have A120 := Aside0.mk A1200
                        clear A1200
                        obtain rfl := Option.some.inj H
                        have hnb121 := NB220_221.out
                        have hnc121 := NB221_220.out
                        have hnb122 := NB220_222.out
                        have hnc122 := NB222_220.out
                        have hcz123_0 : wc.cell? ⟨gb220, 0, none⟩ = some (.slice A0_0 l0_0.length c0_0) := (blk_cell BK220.out 0).trans rfl
                        have hcz123_1 : wc.cell? ⟨gb220, 1, none⟩ = some (.int .i64 a0_1) := (blk_cell BK220.out 1).trans rfl
                        have hfz123_0 := blk_frozen BK220.out 0
                        have hfz123_1 := blk_frozen BK220.out 1
                        have hnb124 := NB221_222.out
                        have hnc124 := NB222_221.out
                        have hcz125_0 : wc.cell? ⟨gb221, 0, none⟩ = some (.slice A1_0 l1_0.length c1_0) := (blk_cell BK221.out 0).trans rfl
                        have hcz125_1 : wc.cell? ⟨gb221, 1, none⟩ = some (.int .i64 a1_1) := (blk_cell BK221.out 1).trans rfl
                        have hfz125_0 := blk_frozen BK221.out 0
                        have hfz125_1 := blk_frozen BK221.out 1
                        go_wp2_with (first | (go_at_call 18; (with_reducible refine (familycheckref01_SameRow.calls kj38 _ _ l0_0 a0_1 _ _ l1_0 a1_1 true _ ?side1 ?side2 ?side3 ?side4 A118.out).mono ?_); (case side1 => repeat (first | exact (Kd.C_below HR0_0.out HB.out) | (with_reducible refine Kd.C_alloc ?_ _) | (with_reducible refine Kd.C_drewN ?_ _) | (with_reducible refine Kd.C_drew ?_))); (case side2 => exact HC0_0.out); (case side3 => repeat (first | exact (Kd.C_below HR1_0.out HB.out) | (with_reducible refine Kd.C_alloc ?_ _) | (with_reducible refine Kd.C_drewN ?_ _) | (with_reducible refine Kd.C_drew ?_))); (case side4 => exact HC1_0.out); rintro e w126 ⟨rfl, hb⟩; have n0_ := Aside0.mk (blk_below (g := gb220) (o := .cells #[.slice A0_0 l0_0.length c0_0, .int .i64 a0_1] 35 (0, 0)) (by (with_reducible repeat (first | refine blk_drewN ?_ _ | refine blk_drew ?_ | refine blk_alloc ?_ _)); exact BK220.out) hb); have n1_ := Aside0.mk (blk_below (g := gb221) (o := .cells #[.slice A1_0 l1_0.length c1_0, .int .i64 a1_1] 35 (0, 0)) (by (with_reducible repeat (first | refine blk_drewN ?_ _ | refine blk_drew ?_ | refine blk_alloc ?_ _)); exact BK221.out) hb); have n2_ := Aside0.mk (blk_below (g := gb222) (o := .cells #[.slice A2_0 l2_0.length c2_0, .int .i64 a2_1] 35 (0, 0)) (by (with_reducible repeat (first | refine blk_drewN ?_ _ | refine blk_drew ?_ | refine blk_alloc ?_ _)); exact BK222.out) hb); have n3_ := Aside0.mk (below_step (by repeat (first | (with_reducible first | exact HB.out | apply below_alloc | apply pw_below_drewN | apply below_drew1 | refine below_set ?_ GE220.out | refine below_set ?_ GE221.out | refine below_set ?_ GE222.out) | exact HB.out)) hb); clear BK220; clear BK221; clear BK222; clear HB; have BK220 := n0_; have BK221 := n1_; have BK222 := n2_; have HB := n3_; clear n0_ n1_ n2_ n3_; (try clear hb); (try clear hb2); (try clear hk); (try clear hi)) | (go_at_call 11; (with_reducible refine (familychecklaw01_known.calls kj38  t240 _ A120.out).mono ?_); rintro e w127 ⟨rfl, hb⟩; have n0_ := Aside0.mk (blk_below (g := gb220) (o := .cells #[.slice A0_0 l0_0.length c0_0, .int .i64 a0_1] 35 (0, 0)) (by (with_reducible repeat (first | refine blk_drewN ?_ _ | refine blk_drew ?_ | refine blk_alloc ?_ _)); exact BK220.out) hb); have n1_ := Aside0.mk (blk_below (g := gb221) (o := .cells #[.slice A1_0 l1_0.length c1_0, .int .i64 a1_1] 35 (0, 0)) (by (with_reducible repeat (first | refine blk_drewN ?_ _ | refine blk_drew ?_ | refine blk_alloc ?_ _)); exact BK221.out) hb); have n2_ := Aside0.mk (blk_below (g := gb222) (o := .cells #[.slice A2_0 l2_0.length c2_0, .int .i64 a2_1] 35 (0, 0)) (by (with_reducible repeat (first | refine blk_drewN ?_ _ | refine blk_drew ?_ | refine blk_alloc ?_ _)); exact BK222.out) hb); have n3_ := Aside0.mk (below_step (by repeat (first | (with_reducible first | exact HB.out | apply below_alloc | apply pw_below_drewN | apply below_drew1 | refine below_set ?_ GE220.out | refine below_set ?_ GE221.out | refine below_set ?_ GE222.out) | exact HB.out)) hb); clear BK220; clear BK221; clear BK222; clear HB; have BK220 := n0_; have BK221 := n1_; have BK222 := n2_; have HB := n3_; clear n0_ n1_ n2_ n3_; (try clear hb); (try clear hb2); (try clear hk); (try clear hi)))
                        go_ret
                        exact ⟨by first | rfl | (simp [errW_none, errW_some] <;> rfl) | (simp [*, errW_none, errW_some] <;> rfl), by repeat (first | (with_reducible first | exact HB.out | apply below_alloc | apply pw_below_drewN | apply below_drew1 | refine below_set ?_ GE220.out | refine below_set ?_ GE221.out | refine below_set ?_ GE222.out) | exact HB.out)⟩
                      · replace c119 := Bool.eq_false_iff.mpr c119
                        subst c119
                        have H1 : (some false) = some r := by rw [if_neg (show ¬ (false = true) by decide)] at H; exact H
                        clear H
                        have H := H1
                        clear H1
                        obtain rfl := Option.some.inj H
                        have hnb128 := NB220_221.out
                        have hnc128 := NB221_220.out
                        have hnb129 := NB220_222.out
                        have hnc129 := NB222_220.out
                        have hcz130_0 : wc.cell? ⟨gb220, 0, none⟩ = some (.slice A0_0 l0_0.length c0_0) := (blk_cell BK220.out 0).trans rfl
                        have hcz130_1 : wc.cell? ⟨gb220, 1, none⟩ = some (.int .i64 a0_1) := (blk_cell BK220.out 1).trans rfl
                        have hfz130_0 := blk_frozen BK220.out 0
                        have hfz130_1 := blk_frozen BK220.out 1
                        have hnb131 := NB221_222.out
                        have hnc131 := NB222_221.out
                        have hcz132_0 : wc.cell? ⟨gb221, 0, none⟩ = some (.slice A1_0 l1_0.length c1_0) := (blk_cell BK221.out 0).trans rfl
                        have hcz132_1 : wc.cell? ⟨gb221, 1, none⟩ = some (.int .i64 a1_1) := (blk_cell BK221.out 1).trans rfl
                        have hfz132_0 := blk_frozen BK221.out 0
                        have hfz132_1 := blk_frozen BK221.out 1
                        go_wp2_with (first | (go_at_call 18; (with_reducible refine (familycheckref01_SameRow.calls kj38 _ _ l0_0 a0_1 _ _ l1_0 a1_1 false _ ?side1 ?side2 ?side3 ?side4 A118.out).mono ?_); (case side1 => repeat (first | exact (Kd.C_below HR0_0.out HB.out) | (with_reducible refine Kd.C_alloc ?_ _) | (with_reducible refine Kd.C_drewN ?_ _) | (with_reducible refine Kd.C_drew ?_))); (case side2 => exact HC0_0.out); (case side3 => repeat (first | exact (Kd.C_below HR1_0.out HB.out) | (with_reducible refine Kd.C_alloc ?_ _) | (with_reducible refine Kd.C_drewN ?_ _) | (with_reducible refine Kd.C_drew ?_))); (case side4 => exact HC1_0.out); rintro e w133 ⟨rfl, hb⟩; have n0_ := Aside0.mk (blk_below (g := gb220) (o := .cells #[.slice A0_0 l0_0.length c0_0, .int .i64 a0_1] 35 (0, 0)) (by (with_reducible repeat (first | refine blk_drewN ?_ _ | refine blk_drew ?_ | refine blk_alloc ?_ _)); exact BK220.out) hb); have n1_ := Aside0.mk (blk_below (g := gb221) (o := .cells #[.slice A1_0 l1_0.length c1_0, .int .i64 a1_1] 35 (0, 0)) (by (with_reducible repeat (first | refine blk_drewN ?_ _ | refine blk_drew ?_ | refine blk_alloc ?_ _)); exact BK221.out) hb); have n2_ := Aside0.mk (blk_below (g := gb222) (o := .cells #[.slice A2_0 l2_0.length c2_0, .int .i64 a2_1] 35 (0, 0)) (by (with_reducible repeat (first | refine blk_drewN ?_ _ | refine blk_drew ?_ | refine blk_alloc ?_ _)); exact BK222.out) hb); have n3_ := Aside0.mk (below_step (by repeat (first | (with_reducible first | exact HB.out | apply below_alloc | apply pw_below_drewN | apply below_drew1 | refine below_set ?_ GE220.out | refine below_set ?_ GE221.out | refine below_set ?_ GE222.out) | exact HB.out)) hb); clear BK220; clear BK221; clear BK222; clear HB; have BK220 := n0_; have BK221 := n1_; have BK222 := n2_; have HB := n3_; clear n0_ n1_ n2_ n3_; (try clear hb); (try clear hb2); (try clear hk); (try clear hi)))
                        go_ret
                        exact ⟨by first | rfl | (simp [errW_none, errW_some] <;> rfl) | (simp [*, errW_none, errW_some] <;> rfl), by repeat (first | (with_reducible first | exact HB.out | apply below_alloc | apply pw_below_drewN | apply below_drew1 | refine below_set ?_ GE220.out | refine below_set ?_ GE221.out | refine below_set ?_ GE222.out) | exact HB.out)⟩
                    · rw [if_neg c117] at H
                      have c117b0 : (t227 == 0) = false := beq_eq_false_iff_ne.mpr c117
                      have c117b1 : (t227 != 0) = true := bne_iff_ne.mpr c117
                      replace H := Option.bind_eq_some_iff.mp H
                      obtain ⟨t241, A1340, H⟩ := H
                      replace H : (some t241) = some r := H
                      have A134 := Aside0.mk A1340
                      clear A1340
                      obtain rfl := Option.some.inj H
                      go_wp2_with (first | (go_at_call 11; (with_reducible refine (familychecklaw01_known.calls kj38  t241 _ A134.out).mono ?_); rintro e w135 ⟨rfl, hb⟩; have n0_ := Aside0.mk (blk_below (g := gb220) (o := .cells #[.slice A0_0 l0_0.length c0_0, .int .i64 a0_1] 35 (0, 0)) (by (with_reducible repeat (first | refine blk_drewN ?_ _ | refine blk_drew ?_ | refine blk_alloc ?_ _)); exact BK220.out) hb); have n1_ := Aside0.mk (blk_below (g := gb221) (o := .cells #[.slice A1_0 l1_0.length c1_0, .int .i64 a1_1] 35 (0, 0)) (by (with_reducible repeat (first | refine blk_drewN ?_ _ | refine blk_drew ?_ | refine blk_alloc ?_ _)); exact BK221.out) hb); have n2_ := Aside0.mk (blk_below (g := gb222) (o := .cells #[.slice A2_0 l2_0.length c2_0, .int .i64 a2_1] 35 (0, 0)) (by (with_reducible repeat (first | refine blk_drewN ?_ _ | refine blk_drew ?_ | refine blk_alloc ?_ _)); exact BK222.out) hb); have n3_ := Aside0.mk (below_step (by repeat (first | (with_reducible first | exact HB.out | apply below_alloc | apply pw_below_drewN | apply below_drew1 | refine below_set ?_ GE220.out | refine below_set ?_ GE221.out | refine below_set ?_ GE222.out) | exact HB.out)) hb); clear BK220; clear BK221; clear BK222; clear HB; have BK220 := n0_; have BK221 := n1_; have BK222 := n2_; have HB := n3_; clear n0_ n1_ n2_ n3_; (try clear hb); (try clear hb2); (try clear hk); (try clear hi)))
                      go_ret
                      exact ⟨by first | rfl | (simp [errW_none, errW_some] <;> rfl) | (simp [*, errW_none, errW_some] <;> rfl), by repeat (first | (with_reducible first | exact HB.out | apply below_alloc | apply pw_below_drewN | apply below_drew1 | refine below_set ?_ GE220.out | refine below_set ?_ GE221.out | refine below_set ?_ GE222.out) | exact HB.out)⟩
                  · rw [if_neg c116] at H
                    have c116b0 : decide (t229 ≤ 0) = false := decide_eq_false c116
                    clear c116
                    obtain rfl := Option.some.inj H
                    go_wp2
                    go_ret
                    exact ⟨by first | rfl | (simp [errW_none, errW_some] <;> rfl) | (simp [*, errW_none, errW_some] <;> rfl), by repeat (first | (with_reducible first | exact HB.out | apply below_alloc | apply pw_below_drewN | apply below_drew1 | refine below_set ?_ GE220.out | refine below_set ?_ GE221.out | refine below_set ?_ GE222.out) | exact HB.out)⟩

end Go.Proofs.YtbioiodjdfcooabDoor.P
