/- familychecklaw01_LinearSubstitutes, printed. -/
import Derived.Test.YtbioiodjdfcooaaDoorVFPx0
import Derived.Test.YtbioiodjdfcooaaDoorVFPx1
import Derived.Test.YtbioiodjdfcooaaDoorVFPx11
import Derived.Test.YtbioiodjdfcooaaDoorVFPx18
import Derived.Test.YtbioiodjdfcooaaDoorVFPx7
import Derived.Test.YtbioiodjdfcooaaDoorVFPx8
import Derived.Test.YtbioiodjdfcooaaDoorVFYRefSub
import Derived.Test.YtbioiodjdfcooaaDoorVFYSub
import Derived.Test.YtbioiodjdfcooaaDoorVFYSubW
import Derived.Test.YtbioiodjdfcooaaDoorVFYRefSubW
import Derived.Test.YtbioiodjdfcooaaDoorVFSpoil
import Derived.Test.YtbioiodjdfcooaaDoorVFYSubs
import Derived.WalkMore
namespace Go.Proofs.YtbioiodjdfcooaaDoor.P
open Go.RowKit Go.Proofs.YtbioiodjdfcooaaDoorW.PrintWords Go.Proofs.YtbioiodjdfcooaaDoorW.PrintLast Go.Proofs.YtbioiodjdfcooaaDoorW.PrintMore
set_option linter.unusedVariables false
set_option linter.unusedSimpArgs false
open Build
set_option maxHeartbeats 8000000 in
set_option maxRecDepth 100000 in
theorem familychecklaw01_LinearSubstitutes.calls (k : Nat) (a0_0 : Int) (A0_1 : Option Addr) (c0_1 : Nat) (l0_1 : List (S33)) (a1_0 : Int) (a1_1 : Int) (r : Bool) (w : World) (hr0_1 : Kd.C k33 w A0_1 l0_1.length l0_1) (hc0_1 : l0_1.length ≤ c0_1) (h : familychecklaw01_LinearSubstitutes.f k a0_0 l0_1 a1_0 a1_1 = some r) :
    Calls Tryd.prog 12 #[.agg #[.int .i64 a0_0, .slice A0_1 l0_1.length c0_1], .agg #[.int .i64 a1_0, .int .i64 a1_1]] w fun e w' => e = .returned (.bool r) ∧ Below w.heap.size w w' := by
  have hu24 := Tryd.underlying24
  have hu55 := Tryd.underlying55
  have HR0_1 := Aside0.mk hr0_1
  have HC0_1 := Aside0.mk hc0_1
  clear hr0_1 hc0_1
  have HB := Aside0.mk (Below.refl w.heap.size w)
  have H : ((familychecklaw01_wide.f k a0_0 l0_1).bind fun t268 => (if t268 = true then ((familychecklaw01_known.f k).bind fun t269 => (some t269)) else ((familycheckref01_CopySystem.f k a0_0 l0_1).bind fun bt270 => ((linear_Substitute.f k bt270.1 bt270.2 a1_0 a1_1).bind fun bt275 => ((familycheckref01_Substitute.f k a0_0 l0_1 a1_0 a1_1).bind fun bt281 => (if bt275.2.2 = bt281.2.2 then ((familycheckref01_SameSystem.f k bt275.1 bt275.2.1 bt281.1 bt281.2.1).bind fun t287 => (familychecklaw01_LinearSubstitutes.j0 k t287 a0_0 l0_1 bt270.1 bt270.2 bt275.1 bt275.2.1)) else (familychecklaw01_LinearSubstitutes.j0 k false a0_0 l0_1 bt270.1 bt270.2 bt275.1 bt275.2.1))))))) = some r := h
  clear h
  replace H := Option.bind_eq_some_iff.mp H
  obtain ⟨t268, A30, H⟩ := H
  replace H : (if t268 = true then ((familychecklaw01_known.f k).bind fun t269 => (some t269)) else ((familycheckref01_CopySystem.f k a0_0 l0_1).bind fun bt270 => ((linear_Substitute.f k bt270.1 bt270.2 a1_0 a1_1).bind fun bt275 => ((familycheckref01_Substitute.f k a0_0 l0_1 a1_0 a1_1).bind fun bt281 => (if bt275.2.2 = bt281.2.2 then ((familycheckref01_SameSystem.f k bt275.1 bt275.2.1 bt281.1 bt281.2.1).bind fun t287 => (familychecklaw01_LinearSubstitutes.j0 k t287 a0_0 l0_1 bt270.1 bt270.2 bt275.1 bt275.2.1)) else (familychecklaw01_LinearSubstitutes.j0 k false a0_0 l0_1 bt270.1 bt270.2 bt275.1 bt275.2.1)))))) = some r := H
  have A3 := Aside0.mk A30
  clear A30
  by_cases c4 : t268 = true
  · subst c4
    have H1 : ((familychecklaw01_known.f k).bind fun t269 => (some t269)) = some r := by rw [if_pos rfl] at H; exact H
    clear H
    have H := H1
    clear H1
    replace H := Option.bind_eq_some_iff.mp H
    obtain ⟨t269, A50, H⟩ := H
    replace H : (some t269) = some r := H
    have A5 := Aside0.mk A50
    clear A50
    obtain rfl := Option.some.inj H
    go_enter Tryd.func12, Tryd.ntmps12
    go_wp2_with (first | ((with_reducible refine gate_dst (N := 2) rfl ?_); refine box_event ?hg (N := 2) ?hd (cs := #[.int .i64 a0_0, .slice A0_1 l0_1.length c0_1]) (t := 24) ?hr ?_; (case hd => rfl); (case hg => rfl); (case hr => first | (go_simp; done) | (go_simp; rfl)); intro gb266 hg w6 hbox hb; have n0_ := Aside0.mk (below_step (by repeat (first | (with_reducible first | exact HB.out | apply below_alloc | apply pw_below_drewN | apply below_drew1) | exact HB.out)) hb); have n1_ := Aside0.mk (hbox); have n2_ := Aside0.mk ((by rw [hg]; exact (below_size (by repeat (first | (with_reducible first | exact HB.out | apply below_alloc | apply pw_below_drewN | apply below_drew1) | exact HB.out))) : w.heap.size ≤ gb266)); have n3_ := Aside0.mk ((by rw [hg]; exact (below_size (by repeat (first | (with_reducible first | exact HB.out | apply below_alloc | apply pw_below_drewN | apply below_drew1) | exact HB.out))) : w.heap.size ≤ gb266)); clear HB; have HB := n0_; have BK266 := n1_; have GW266 := n2_; have GE266 := n3_; clear n0_ n1_ n2_ n3_; clear hb hbox hg) | ((with_reducible refine gate_dst (N := 3) rfl ?_); refine box_event ?hg (N := 3) ?hd (cs := #[.int .i64 a1_0, .int .i64 a1_1]) (t := 55) ?hr ?_; (case hd => rfl); (case hg => rfl); (case hr => first | (go_simp; done) | (go_simp; rfl)); intro gb267 hg w7 hbox hb; have n0_ := Aside0.mk (blk_below (g := gb266) (o := .cells #[.int .i64 a0_0, .slice A0_1 l0_1.length c0_1] 24 (0, 0)) (by (with_reducible repeat (first | refine blk_drewN ?_ _ | refine blk_drew ?_ | refine blk_alloc ?_ _)); exact BK266.out) hb); have n1_ := Aside0.mk (below_step (by repeat (first | (with_reducible first | exact HB.out | apply below_alloc | apply pw_below_drewN | apply below_drew1 | refine below_set ?_ GE266.out) | exact HB.out)) hb); have n2_ := Aside0.mk (hbox); have n3_ := Aside0.mk ((by rw [hg]; exact (below_size (by repeat (first | (with_reducible first | exact HB.out | apply below_alloc | apply pw_below_drewN | apply below_drew1 | refine below_set ?_ GE266.out) | exact HB.out))) : w.heap.size ≤ gb267)); have n4_ := Aside0.mk ((by rw [hg]; exact (below_size (by repeat (first | (with_reducible first | exact HB.out | apply below_alloc | apply pw_below_drewN | apply below_drew1 | refine below_set ?_ GE266.out) | exact HB.out))) : w.heap.size ≤ gb267)); have n5_ := Aside0.mk ((by rw [hg]; exact Nat.ne_of_lt (blk_lt (g := gb266) (o := .cells #[.int .i64 a0_0, .slice A0_1 l0_1.length c0_1] 24 (0, 0)) (by (with_reducible repeat (first | refine blk_drewN ?_ _ | refine blk_drew ?_ | refine blk_alloc ?_ _)); exact BK266.out)) : gb266 ≠ gb267)); have n6_ := Aside0.mk ((by rw [hg]; exact Nat.ne_of_gt (blk_lt (g := gb266) (o := .cells #[.int .i64 a0_0, .slice A0_1 l0_1.length c0_1] 24 (0, 0)) (by (with_reducible repeat (first | refine blk_drewN ?_ _ | refine blk_drew ?_ | refine blk_alloc ?_ _)); exact BK266.out)) : gb267 ≠ gb266)); clear BK266; clear HB; have BK266 := n0_; have HB := n1_; have BK267 := n2_; have GW267 := n3_; have GE267 := n4_; have NB266_267 := n5_; have NB267_266 := n6_; clear n0_ n1_ n2_ n3_ n4_ n5_ n6_; clear hb hbox hg; have hnb8 := NB266_267.out; have hnc8 := NB267_266.out; have hcz9_0 : w7.cell? ⟨gb266, 0, none⟩ = some (.int .i64 a0_0) := (blk_cell BK266.out 0).trans rfl; have hcz9_1 : w7.cell? ⟨gb266, 1, none⟩ = some (.slice A0_1 l0_1.length c0_1) := (blk_cell BK266.out 1).trans rfl; have hfz9_0 := blk_frozen BK266.out 0; have hfz9_1 := blk_frozen BK266.out 1) | ((with_reducible refine gate_callee (f := 15) rfl ?_); refine goesL_ (some 13) rfl rfl Tryd.func15 (by kernel_rfl) rfl #[.agg #[.int .i64 a0_0, .slice A0_1 l0_1.length c0_1]] rfl (by (try simp only [List.map_toArray, List.map_cons, List.map_nil]); first | done | rfl | (simp only [List.length_drop, List.length_take]; rfl)) ?_; (with_reducible refine (familychecklaw01_wide.calls k a0_0 _ _ l0_1 true _ ?side1 ?side2 A3.out).mono ?_); (case side1 => repeat (first | exact (Kd.C_below HR0_1.out HB.out) | (with_reducible refine Kd.C_alloc ?_ _) | (with_reducible refine Kd.C_drewN ?_ _) | (with_reducible refine Kd.C_drew ?_))); (case side2 => exact HC0_1.out); rintro e w10 ⟨rfl, hb⟩; refine ⟨_, rfl, ?_⟩; have n0_ := Aside0.mk (blk_below (g := gb266) (o := .cells #[.int .i64 a0_0, .slice A0_1 l0_1.length c0_1] 24 (0, 0)) (by (with_reducible repeat (first | refine blk_drewN ?_ _ | refine blk_drew ?_ | refine blk_alloc ?_ _)); exact BK266.out) hb); have n1_ := Aside0.mk (blk_below (g := gb267) (o := .cells #[.int .i64 a1_0, .int .i64 a1_1] 55 (0, 0)) (by (with_reducible repeat (first | refine blk_drewN ?_ _ | refine blk_drew ?_ | refine blk_alloc ?_ _)); exact BK267.out) hb); have n2_ := Aside0.mk (below_step (by repeat (first | (with_reducible first | exact HB.out | apply below_alloc | apply pw_below_drewN | apply below_drew1 | refine below_set ?_ GE266.out | refine below_set ?_ GE267.out) | exact HB.out)) hb); clear BK266; clear BK267; clear HB; have BK266 := n0_; have BK267 := n1_; have HB := n2_; clear n0_ n1_ n2_; (try clear hb); (try clear hb2); (try clear hk); (try clear hi)) | ((with_reducible refine gate_callee (f := 16) rfl ?_); refine goesL_ (some 14) rfl rfl Tryd.func16 (by kernel_rfl) rfl #[] rfl (by (try simp only [List.map_toArray, List.map_cons, List.map_nil]); first | done | rfl | (simp only [List.length_drop, List.length_take]; rfl)) ?_; (with_reducible refine (familychecklaw01_known.calls k  t269 _ A5.out).mono ?_); rintro e w11 ⟨rfl, hb⟩; refine ⟨_, rfl, ?_⟩; have n0_ := Aside0.mk (blk_below (g := gb266) (o := .cells #[.int .i64 a0_0, .slice A0_1 l0_1.length c0_1] 24 (0, 0)) (by (with_reducible repeat (first | refine blk_drewN ?_ _ | refine blk_drew ?_ | refine blk_alloc ?_ _)); exact BK266.out) hb); have n1_ := Aside0.mk (blk_below (g := gb267) (o := .cells #[.int .i64 a1_0, .int .i64 a1_1] 55 (0, 0)) (by (with_reducible repeat (first | refine blk_drewN ?_ _ | refine blk_drew ?_ | refine blk_alloc ?_ _)); exact BK267.out) hb); have n2_ := Aside0.mk (below_step (by repeat (first | (with_reducible first | exact HB.out | apply below_alloc | apply pw_below_drewN | apply below_drew1 | refine below_set ?_ GE266.out | refine below_set ?_ GE267.out) | exact HB.out)) hb); clear BK266; clear BK267; clear HB; have BK266 := n0_; have BK267 := n1_; have HB := n2_; clear n0_ n1_ n2_; (try clear hb); (try clear hb2); (try clear hk); (try clear hi)))
    go_ret
    exact ⟨by first | rfl | (simp [errW_none, errW_some] <;> rfl) | (simp [*, errW_none, errW_some] <;> rfl), by repeat (first | (with_reducible first | exact HB.out | apply below_alloc | apply pw_below_drewN | apply below_drew1 | refine below_set ?_ GE266.out | refine below_set ?_ GE267.out) | exact HB.out)⟩
  · replace c4 := Bool.eq_false_iff.mpr c4
    subst c4
    have H1 : ((familycheckref01_CopySystem.f k a0_0 l0_1).bind fun bt270 => ((linear_Substitute.f k bt270.1 bt270.2 a1_0 a1_1).bind fun bt275 => ((familycheckref01_Substitute.f k a0_0 l0_1 a1_0 a1_1).bind fun bt281 => (if bt275.2.2 = bt281.2.2 then ((familycheckref01_SameSystem.f k bt275.1 bt275.2.1 bt281.1 bt281.2.1).bind fun t287 => (familychecklaw01_LinearSubstitutes.j0 k t287 a0_0 l0_1 bt270.1 bt270.2 bt275.1 bt275.2.1)) else (familychecklaw01_LinearSubstitutes.j0 k false a0_0 l0_1 bt270.1 bt270.2 bt275.1 bt275.2.1))))) = some r := by rw [if_neg (show ¬ (false = true) by decide)] at H; exact H
    clear H
    have H := H1
    clear H1
    replace H := Option.bind_eq_some_iff.mp H
    obtain ⟨⟨t270, t271⟩, A120, H⟩ := H
    replace H : ((linear_Substitute.f k t270 t271 a1_0 a1_1).bind fun bt275 => ((familycheckref01_Substitute.f k a0_0 l0_1 a1_0 a1_1).bind fun bt281 => (if bt275.2.2 = bt281.2.2 then ((familycheckref01_SameSystem.f k bt275.1 bt275.2.1 bt281.1 bt281.2.1).bind fun t287 => (familychecklaw01_LinearSubstitutes.j0 k t287 a0_0 l0_1 t270 t271 bt275.1 bt275.2.1)) else (familychecklaw01_LinearSubstitutes.j0 k false a0_0 l0_1 t270 t271 bt275.1 bt275.2.1)))) = some r := H
    have A12 := Aside0.mk A120
    clear A120
    replace H := Option.bind_eq_some_iff.mp H
    obtain ⟨⟨t275, t276, t279⟩, A130, H⟩ := H
    replace H : ((familycheckref01_Substitute.f k a0_0 l0_1 a1_0 a1_1).bind fun bt281 => (if t279 = bt281.2.2 then ((familycheckref01_SameSystem.f k t275 t276 bt281.1 bt281.2.1).bind fun t287 => (familychecklaw01_LinearSubstitutes.j0 k t287 a0_0 l0_1 t270 t271 t275 t276)) else (familychecklaw01_LinearSubstitutes.j0 k false a0_0 l0_1 t270 t271 t275 t276))) = some r := H
    have A13 := Aside0.mk A130
    clear A130
    replace H := Option.bind_eq_some_iff.mp H
    obtain ⟨⟨t281, t282, t285⟩, A140, H⟩ := H
    replace H : (if t279 = t285 then ((familycheckref01_SameSystem.f k t275 t276 t281 t282).bind fun t287 => (familychecklaw01_LinearSubstitutes.j0 k t287 a0_0 l0_1 t270 t271 t275 t276)) else (familychecklaw01_LinearSubstitutes.j0 k false a0_0 l0_1 t270 t271 t275 t276)) = some r := H
    have A14 := Aside0.mk A140
    clear A140
    have HC15 := Aside0.mk H
    clear H
    go_enter Tryd.func12, Tryd.ntmps12
    go_upto_region 6 with (first | ((with_reducible refine gate_dst (N := 2) rfl ?_); refine box_event ?hg (N := 2) ?hd (cs := #[.int .i64 a0_0, .slice A0_1 l0_1.length c0_1]) (t := 24) ?hr ?_; (case hd => rfl); (case hg => rfl); (case hr => first | (go_simp; done) | (go_simp; rfl)); intro gb266 hg w16 hbox hb; have n0_ := Aside0.mk (below_step (by repeat (first | (with_reducible first | exact HB.out | apply below_alloc | apply pw_below_drewN | apply below_drew1) | exact HB.out)) hb); have n1_ := Aside0.mk (hbox); have n2_ := Aside0.mk ((by rw [hg]; exact (below_size (by repeat (first | (with_reducible first | exact HB.out | apply below_alloc | apply pw_below_drewN | apply below_drew1) | exact HB.out))) : w.heap.size ≤ gb266)); have n3_ := Aside0.mk ((by rw [hg]; exact (below_size (by repeat (first | (with_reducible first | exact HB.out | apply below_alloc | apply pw_below_drewN | apply below_drew1) | exact HB.out))) : w.heap.size ≤ gb266)); clear HB; have HB := n0_; have BK266 := n1_; have GW266 := n2_; have GE266 := n3_; clear n0_ n1_ n2_ n3_; clear hb hbox hg) | ((with_reducible refine gate_dst (N := 3) rfl ?_); refine box_event ?hg (N := 3) ?hd (cs := #[.int .i64 a1_0, .int .i64 a1_1]) (t := 55) ?hr ?_; (case hd => rfl); (case hg => rfl); (case hr => first | (go_simp; done) | (go_simp; rfl)); intro gb267 hg w17 hbox hb; have n0_ := Aside0.mk (blk_below (g := gb266) (o := .cells #[.int .i64 a0_0, .slice A0_1 l0_1.length c0_1] 24 (0, 0)) (by (with_reducible repeat (first | refine blk_drewN ?_ _ | refine blk_drew ?_ | refine blk_alloc ?_ _)); exact BK266.out) hb); have n1_ := Aside0.mk (below_step (by repeat (first | (with_reducible first | exact HB.out | apply below_alloc | apply pw_below_drewN | apply below_drew1 | refine below_set ?_ GE266.out) | exact HB.out)) hb); have n2_ := Aside0.mk (hbox); have n3_ := Aside0.mk ((by rw [hg]; exact (below_size (by repeat (first | (with_reducible first | exact HB.out | apply below_alloc | apply pw_below_drewN | apply below_drew1 | refine below_set ?_ GE266.out) | exact HB.out))) : w.heap.size ≤ gb267)); have n4_ := Aside0.mk ((by rw [hg]; exact (below_size (by repeat (first | (with_reducible first | exact HB.out | apply below_alloc | apply pw_below_drewN | apply below_drew1 | refine below_set ?_ GE266.out) | exact HB.out))) : w.heap.size ≤ gb267)); have n5_ := Aside0.mk ((by rw [hg]; exact Nat.ne_of_lt (blk_lt (g := gb266) (o := .cells #[.int .i64 a0_0, .slice A0_1 l0_1.length c0_1] 24 (0, 0)) (by (with_reducible repeat (first | refine blk_drewN ?_ _ | refine blk_drew ?_ | refine blk_alloc ?_ _)); exact BK266.out)) : gb266 ≠ gb267)); have n6_ := Aside0.mk ((by rw [hg]; exact Nat.ne_of_gt (blk_lt (g := gb266) (o := .cells #[.int .i64 a0_0, .slice A0_1 l0_1.length c0_1] 24 (0, 0)) (by (with_reducible repeat (first | refine blk_drewN ?_ _ | refine blk_drew ?_ | refine blk_alloc ?_ _)); exact BK266.out)) : gb267 ≠ gb266)); clear BK266; clear HB; have BK266 := n0_; have HB := n1_; have BK267 := n2_; have GW267 := n3_; have GE267 := n4_; have NB266_267 := n5_; have NB267_266 := n6_; clear n0_ n1_ n2_ n3_ n4_ n5_ n6_; clear hb hbox hg; have hnb18 := NB266_267.out; have hnc18 := NB267_266.out; have hcz19_0 : w17.cell? ⟨gb266, 0, none⟩ = some (.int .i64 a0_0) := (blk_cell BK266.out 0).trans rfl; have hcz19_1 : w17.cell? ⟨gb266, 1, none⟩ = some (.slice A0_1 l0_1.length c0_1) := (blk_cell BK266.out 1).trans rfl; have hfz19_0 := blk_frozen BK266.out 0; have hfz19_1 := blk_frozen BK266.out 1) | ((with_reducible refine gate_callee (f := 15) rfl ?_); refine goesL_ (some 13) rfl rfl Tryd.func15 (by kernel_rfl) rfl #[.agg #[.int .i64 a0_0, .slice A0_1 l0_1.length c0_1]] rfl (by (try simp only [List.map_toArray, List.map_cons, List.map_nil]); first | done | rfl | (simp only [List.length_drop, List.length_take]; rfl)) ?_; (with_reducible refine (familychecklaw01_wide.calls k a0_0 _ _ l0_1 false _ ?side1 ?side2 A3.out).mono ?_); (case side1 => repeat (first | exact (Kd.C_below HR0_1.out HB.out) | (with_reducible refine Kd.C_alloc ?_ _) | (with_reducible refine Kd.C_drewN ?_ _) | (with_reducible refine Kd.C_drew ?_))); (case side2 => exact HC0_1.out); rintro e w20 ⟨rfl, hb⟩; refine ⟨_, rfl, ?_⟩; have n0_ := Aside0.mk (blk_below (g := gb266) (o := .cells #[.int .i64 a0_0, .slice A0_1 l0_1.length c0_1] 24 (0, 0)) (by (with_reducible repeat (first | refine blk_drewN ?_ _ | refine blk_drew ?_ | refine blk_alloc ?_ _)); exact BK266.out) hb); have n1_ := Aside0.mk (blk_below (g := gb267) (o := .cells #[.int .i64 a1_0, .int .i64 a1_1] 55 (0, 0)) (by (with_reducible repeat (first | refine blk_drewN ?_ _ | refine blk_drew ?_ | refine blk_alloc ?_ _)); exact BK267.out) hb); have n2_ := Aside0.mk (below_step (by repeat (first | (with_reducible first | exact HB.out | apply below_alloc | apply pw_below_drewN | apply below_drew1 | refine below_set ?_ GE266.out | refine below_set ?_ GE267.out) | exact HB.out)) hb); clear BK266; clear BK267; clear HB; have BK266 := n0_; have BK267 := n1_; have HB := n2_; clear n0_ n1_ n2_; (try clear hb); (try clear hb2); (try clear hk); (try clear hi); have hcz21_0 : w20.cell? ⟨gb266, 0, none⟩ = some (.int .i64 a0_0) := (blk_cell BK266.out 0).trans rfl; have hcz21_1 : w20.cell? ⟨gb266, 1, none⟩ = some (.slice A0_1 l0_1.length c0_1) := (blk_cell BK266.out 1).trans rfl; have hfz21_0 := blk_frozen BK266.out 0; have hfz21_1 := blk_frozen BK266.out 1) | ((with_reducible refine gate_callee (f := 17) rfl ?_); refine goesL_ (some 16) rfl rfl Tryd.func17 (by kernel_rfl) rfl #[.agg #[.int .i64 a0_0, .slice A0_1 l0_1.length c0_1]] rfl (by (try simp only [List.map_toArray, List.map_cons, List.map_nil]); first | done | rfl | (simp only [List.length_drop, List.length_take]; rfl)) ?_; (with_reducible refine (familycheckref01_CopySystem.calls k a0_0 _ _ l0_1 t270 t271 _ ?side1 ?side2 A12.out).mono ?_); (case side1 => repeat (first | exact (Kd.C_below HR0_1.out HB.out) | (with_reducible refine Kd.C_alloc ?_ _) | (with_reducible refine Kd.C_drewN ?_ _) | (with_reducible refine Kd.C_drew ?_))); (case side2 => exact HC0_1.out); rintro e w22 ⟨v272, rfl, ho0, hb⟩; refine ⟨_, rfl, ?_⟩; have n0_ := Aside0.mk (Kd.S_lower ho0 (below_size (by repeat (first | (with_reducible first | exact HB.out | apply below_alloc | apply pw_below_drewN | apply below_drew1 | refine below_set ?_ GE266.out | refine below_set ?_ GE267.out) | exact HB.out)))); have n1_ := Aside0.mk (blk_below (g := gb266) (o := .cells #[.int .i64 a0_0, .slice A0_1 l0_1.length c0_1] 24 (0, 0)) (by (with_reducible repeat (first | refine blk_drewN ?_ _ | refine blk_drew ?_ | refine blk_alloc ?_ _)); exact BK266.out) hb); have n2_ := Aside0.mk (blk_below (g := gb267) (o := .cells #[.int .i64 a1_0, .int .i64 a1_1] 55 (0, 0)) (by (with_reducible repeat (first | refine blk_drewN ?_ _ | refine blk_drew ?_ | refine blk_alloc ?_ _)); exact BK267.out) hb); have n3_ := Aside0.mk (below_step (by repeat (first | (with_reducible first | exact HB.out | apply below_alloc | apply pw_below_drewN | apply below_drew1 | refine below_set ?_ GE266.out | refine below_set ?_ GE267.out) | exact HB.out)) hb); clear BK266; clear BK267; clear HB; have HO273 := n0_; have BK266 := n1_; have BK267 := n2_; have HB := n3_; clear n0_ n1_ n2_ n3_; (try clear hb); (try clear hb2); (try clear hk); (try clear hi); (try clear ho0)) | ((with_reducible refine gate_dst (N := 5) rfl ?_); refine box_event ?hg (N := 5) ?hd (cs := #[.int .i64 0, .slice none 0 0]) (t := 24) ?hr ?_; (case hd => rfl); (case hg => rfl); (case hr => first | (go_simp; done) | (go_simp; rfl)); intro gb274 hg w23 hbox hb; have n0_ := Aside0.mk (Kd.S_below (by (with_reducible repeat (first | apply Kd.S_alloc | apply Kd.S_drewN | apply Kd.S_drew)); exact HO273.out) hb); have n1_ := Aside0.mk (blk_below (g := gb266) (o := .cells #[.int .i64 a0_0, .slice A0_1 l0_1.length c0_1] 24 (0, 0)) (by (with_reducible repeat (first | refine blk_drewN ?_ _ | refine blk_drew ?_ | refine blk_alloc ?_ _)); exact BK266.out) hb); have n2_ := Aside0.mk (blk_below (g := gb267) (o := .cells #[.int .i64 a1_0, .int .i64 a1_1] 55 (0, 0)) (by (with_reducible repeat (first | refine blk_drewN ?_ _ | refine blk_drew ?_ | refine blk_alloc ?_ _)); exact BK267.out) hb); have n3_ := Aside0.mk (below_step (by repeat (first | (with_reducible first | exact HB.out | apply below_alloc | apply pw_below_drewN | apply below_drew1 | refine below_set ?_ GE266.out | refine below_set ?_ GE267.out) | exact HB.out)) hb); have n4_ := Aside0.mk (hbox); have n5_ := Aside0.mk ((by rw [hg]; exact (below_size (by repeat (first | (with_reducible first | exact HB.out | apply below_alloc | apply pw_below_drewN | apply below_drew1 | refine below_set ?_ GE266.out | refine below_set ?_ GE267.out) | exact HB.out))) : w.heap.size ≤ gb274)); have n6_ := Aside0.mk ((by rw [hg]; exact (below_size (by repeat (first | (with_reducible first | exact HB.out | apply below_alloc | apply pw_below_drewN | apply below_drew1 | refine below_set ?_ GE266.out | refine below_set ?_ GE267.out) | exact HB.out))) : w.heap.size ≤ gb274)); have n7_ := Aside0.mk ((by rw [hg]; exact Nat.ne_of_lt (blk_lt (g := gb266) (o := .cells #[.int .i64 a0_0, .slice A0_1 l0_1.length c0_1] 24 (0, 0)) (by (with_reducible repeat (first | refine blk_drewN ?_ _ | refine blk_drew ?_ | refine blk_alloc ?_ _)); exact BK266.out)) : gb266 ≠ gb274)); have n8_ := Aside0.mk ((by rw [hg]; exact Nat.ne_of_gt (blk_lt (g := gb266) (o := .cells #[.int .i64 a0_0, .slice A0_1 l0_1.length c0_1] 24 (0, 0)) (by (with_reducible repeat (first | refine blk_drewN ?_ _ | refine blk_drew ?_ | refine blk_alloc ?_ _)); exact BK266.out)) : gb274 ≠ gb266)); have n9_ := Aside0.mk ((by rw [hg]; exact Nat.ne_of_lt (blk_lt (g := gb267) (o := .cells #[.int .i64 a1_0, .int .i64 a1_1] 55 (0, 0)) (by (with_reducible repeat (first | refine blk_drewN ?_ _ | refine blk_drew ?_ | refine blk_alloc ?_ _)); exact BK267.out)) : gb267 ≠ gb274)); have n10_ := Aside0.mk ((by rw [hg]; exact Nat.ne_of_gt (blk_lt (g := gb267) (o := .cells #[.int .i64 a1_0, .int .i64 a1_1] 55 (0, 0)) (by (with_reducible repeat (first | refine blk_drewN ?_ _ | refine blk_drew ?_ | refine blk_alloc ?_ _)); exact BK267.out)) : gb274 ≠ gb267)); clear HO273; clear BK266; clear BK267; clear HB; have HO273 := n0_; have BK266 := n1_; have BK267 := n2_; have HB := n3_; have BK274 := n4_; have GW274 := n5_; have GE274 := n6_; have NB266_274 := n7_; have NB274_266 := n8_; have NB267_274 := n9_; have NB274_267 := n10_; clear n0_ n1_ n2_ n3_ n4_ n5_ n6_ n7_ n8_ n9_ n10_; clear hb hbox hg; have hnb24 := NB274_266.out; have hnc24 := NB266_274.out; have hnb25 := NB274_267.out; have hnc25 := NB267_274.out; have hcz26_0 : w23.cell? ⟨gb274, 0, none⟩ = some (.int .i64 0) := (blk_cell BK274.out 0).trans rfl; have hcz26_1 : w23.cell? ⟨gb274, 1, none⟩ = some (.slice none 0 0) := (blk_cell BK274.out 1).trans rfl; have hfz26_0 := blk_frozen BK274.out 0; have hfz26_1 := blk_frozen BK274.out 1; obtain ⟨Ao27, co27, eo27⟩ := Kd.S_slice HO273.out; subst eo27; have hcz28_0 : w23.cell? ⟨gb267, 0, none⟩ = some (.int .i64 a1_0) := (blk_cell BK267.out 0).trans rfl; have hcz28_1 : w23.cell? ⟨gb267, 1, none⟩ = some (.int .i64 a1_1) := (blk_cell BK267.out 1).trans rfl; have hfz28_0 := blk_frozen BK267.out 0; have hfz28_1 := blk_frozen BK267.out 1) | ((with_reducible refine gate_callee (f := 43) rfl ?_); refine goesL_ (some 23) rfl rfl Tryd.func43 (by kernel_rfl) rfl #[.agg #[.int .i64 t270, .slice Ao27 t271.length co27], .int .i64 a1_0, .int .i64 a1_1] rfl (by (try simp only [List.map_toArray, List.map_cons, List.map_nil]); first | done | rfl | (simp only [List.length_drop, List.length_take]; rfl)) ?_; (with_reducible refine (linear_Substitute.calls k t270 _ _ t271 a1_0 a1_1 t275 t276 t279 _ ?side1 ?side2 A13.out).mono ?_); (case side1 => refine (Kd.S_reads' (e := 33) (base := w.heap.size) (ok := fun k_ => True) (n := t271.length) (c := co27) ?_).2.2; exact (by (with_reducible repeat (first | apply Kd.S_alloc | apply Kd.S_drewN | apply Kd.S_drew)); exact (Kd.S_mono (Kd.S_far (p := ⟨gb274, 1, none⟩) (Kd.S_far (p := ⟨gb274, 0, none⟩) (Kd.S_types HO273.out BK274.out (by decide)) (fun _ hk => hk.2) (.int .i64 t270)) (fun _ hk => hk.2) (.slice Ao27 t271.length co27)) (fun _ h_ => h_.1)))); (case side2 => exact (Kd.S_reads' HO273.out).2.1); rintro e w29 ⟨v277, rfl, ho0, hb⟩; refine ⟨_, rfl, ?_⟩; have WA_ : ∃ wA : World, Aside0 (Below wA.heap.size wA w29) ∧ Aside0 (Kd.S k33 33 w29 wA.heap.size (fun _ => True) v277 t276) ∧ Aside0 (Kd.S k33 33 wA w.heap.size (fun k_ => True) (.slice Ao27 t271.length co27) t271) ∧ Aside0 (wA.heap[gb266]? = some (.cells #[.int .i64 a0_0, .slice A0_1 l0_1.length c0_1] 24 (0, 0))) ∧ Aside0 (wA.heap[gb267]? = some (.cells #[.int .i64 a1_0, .int .i64 a1_1] 55 (0, 0))) ∧ Aside0 (wA.heap[gb274]? = some (.cells #[.int .i64 t270, .slice Ao27 t271.length co27] 24 (0, 0))) ∧ Aside0 (Below w.heap.size w wA) := ⟨_, ⟨hb⟩, ⟨ho0⟩, ⟨(by (with_reducible repeat (first | apply Kd.S_alloc | apply Kd.S_drewN | apply Kd.S_drew)); exact (Kd.S_mono (Kd.S_far (p := ⟨gb274, 1, none⟩) (Kd.S_far (p := ⟨gb274, 0, none⟩) (Kd.S_types HO273.out BK274.out (by decide)) (fun _ hk => hk.2) (.int .i64 t270)) (fun _ hk => hk.2) (.slice Ao27 t271.length co27)) (fun _ h_ => h_.1)))⟩, ⟨(by (with_reducible repeat (first | refine blk_drewN ?_ _ | refine blk_drew ?_ | refine blk_alloc ?_ _)); refine blk_far ?_ NB266_274.out _; (with_reducible repeat (first | refine blk_drewN ?_ _ | refine blk_drew ?_ | refine blk_alloc ?_ _)); refine blk_far ?_ NB266_274.out _; (with_reducible repeat (first | refine blk_drewN ?_ _ | refine blk_drew ?_ | refine blk_alloc ?_ _)); exact BK266.out)⟩, ⟨(by (with_reducible repeat (first | refine blk_drewN ?_ _ | refine blk_drew ?_ | refine blk_alloc ?_ _)); refine blk_far ?_ NB267_274.out _; (with_reducible repeat (first | refine blk_drewN ?_ _ | refine blk_drew ?_ | refine blk_alloc ?_ _)); refine blk_far ?_ NB267_274.out _; (with_reducible repeat (first | refine blk_drewN ?_ _ | refine blk_drew ?_ | refine blk_alloc ?_ _)); exact BK267.out)⟩, ⟨(by (with_reducible repeat (first | refine blk_drewN ?_ _ | refine blk_drew ?_ | refine blk_alloc ?_ _)); refine blk_put (cs := #[.int .i64 t270, .slice none 0 0]) ?_ 1 _ rfl; (with_reducible repeat (first | refine blk_drewN ?_ _ | refine blk_drew ?_ | refine blk_alloc ?_ _)); refine blk_put (cs := #[.int .i64 0, .slice none 0 0]) ?_ 0 _ rfl; (with_reducible repeat (first | refine blk_drewN ?_ _ | refine blk_drew ?_ | refine blk_alloc ?_ _)); exact BK274.out)⟩, ⟨(by repeat (first | (with_reducible first | exact HB.out | apply below_alloc | apply pw_below_drewN | apply below_drew1 | refine below_set ?_ GE266.out | refine below_set ?_ GE267.out | refine below_set ?_ GE274.out) | exact HB.out))⟩⟩; obtain ⟨wA, HXA, HXT, WO, Wgb266, Wgb267, Wgb274, WB⟩ := WA_; have n0_ := Aside0.mk (Kd.S_elder' (by (with_reducible repeat (first | apply Kd.S_alloc | apply Kd.S_drewN | apply Kd.S_drew)); exact (Kd.S_mono (Kd.S_far (p := ⟨gb274, 1, none⟩) (Kd.S_far (p := ⟨gb274, 0, none⟩) (Kd.S_types HO273.out BK274.out (by decide)) (fun _ hk => hk.2) (.int .i64 t270)) (fun _ hk => hk.2) (.slice Ao27 t271.length co27)) (fun _ h_ => h_.1))) (Kd.S_base ho0) hb); have n1_ := Aside0.mk (Kd.S_lower (Kd.S_new' ho0 (Kd.S_lt (by (with_reducible repeat (first | apply Kd.S_alloc | apply Kd.S_drewN | apply Kd.S_drew)); exact (Kd.S_mono (Kd.S_far (p := ⟨gb274, 1, none⟩) (Kd.S_far (p := ⟨gb274, 0, none⟩) (Kd.S_types HO273.out BK274.out (by decide)) (fun _ hk => hk.2) (.int .i64 t270)) (fun _ hk => hk.2) (.slice Ao27 t271.length co27)) (fun _ h_ => h_.1))))) (below_size (by repeat (first | (with_reducible first | exact HB.out | apply below_alloc | apply pw_below_drewN | apply below_drew1 | refine below_set ?_ GE266.out | refine below_set ?_ GE267.out | refine below_set ?_ GE274.out) | exact HB.out)))); have n2_ := Aside0.mk (blk_below (g := gb266) (o := .cells #[.int .i64 a0_0, .slice A0_1 l0_1.length c0_1] 24 (0, 0)) (by (with_reducible repeat (first | refine blk_drewN ?_ _ | refine blk_drew ?_ | refine blk_alloc ?_ _)); refine blk_far ?_ NB266_274.out _; (with_reducible repeat (first | refine blk_drewN ?_ _ | refine blk_drew ?_ | refine blk_alloc ?_ _)); refine blk_far ?_ NB266_274.out _; (with_reducible repeat (first | refine blk_drewN ?_ _ | refine blk_drew ?_ | refine blk_alloc ?_ _)); exact BK266.out) hb); have n3_ := Aside0.mk (blk_below (g := gb267) (o := .cells #[.int .i64 a1_0, .int .i64 a1_1] 55 (0, 0)) (by (with_reducible repeat (first | refine blk_drewN ?_ _ | refine blk_drew ?_ | refine blk_alloc ?_ _)); refine blk_far ?_ NB267_274.out _; (with_reducible repeat (first | refine blk_drewN ?_ _ | refine blk_drew ?_ | refine blk_alloc ?_ _)); refine blk_far ?_ NB267_274.out _; (with_reducible repeat (first | refine blk_drewN ?_ _ | refine blk_drew ?_ | refine blk_alloc ?_ _)); exact BK267.out) hb); have n4_ := Aside0.mk (blk_below (g := gb274) (o := .cells #[.int .i64 t270, .slice Ao27 t271.length co27] 24 (0, 0)) (by (with_reducible repeat (first | refine blk_drewN ?_ _ | refine blk_drew ?_ | refine blk_alloc ?_ _)); refine blk_put (cs := #[.int .i64 t270, .slice none 0 0]) ?_ 1 _ rfl; (with_reducible repeat (first | refine blk_drewN ?_ _ | refine blk_drew ?_ | refine blk_alloc ?_ _)); refine blk_put (cs := #[.int .i64 0, .slice none 0 0]) ?_ 0 _ rfl; (with_reducible repeat (first | refine blk_drewN ?_ _ | refine blk_drew ?_ | refine blk_alloc ?_ _)); exact BK274.out) hb); have n5_ := Aside0.mk (below_step (by repeat (first | (with_reducible first | exact HB.out | apply below_alloc | apply pw_below_drewN | apply below_drew1 | refine below_set ?_ GE266.out | refine below_set ?_ GE267.out | refine below_set ?_ GE274.out) | exact HB.out)) hb); clear HO273; clear BK266; clear BK267; clear BK274; clear HB; have HO273 := n0_; have HO278 := n1_; have BK266 := n2_; have BK267 := n3_; have BK274 := n4_; have HB := n5_; clear n0_ n1_ n2_ n3_ n4_ n5_; (try clear hb); (try clear hb2); (try clear hk); (try clear hi); (try clear ho0)) | ((with_reducible refine gate_dst (N := 6) rfl ?_); refine box_event ?hg (N := 6) ?hd (cs := #[.int .i64 0, .slice none 0 0]) (t := 24) ?hr ?_; (case hd => rfl); (case hg => rfl); (case hr => first | (go_simp; done) | (go_simp; rfl)); intro gb280 hg w30 hbox hb; have A1_ := Aside0.mk (below_step (by repeat (first | (with_reducible first | exact HXA.out | apply below_alloc | apply pw_below_drewN | apply below_drew1) | exact HXA.out)) hb); have A3_ := Aside0.mk (Kd.S_below (by (with_reducible repeat (first | apply Kd.S_alloc | apply Kd.S_drewN | apply Kd.S_drew)); exact HXT.out) hb); have A2_ : Aside0 (wA.heap.size ≤ gb280) := ⟨by rw [hg]; exact (below_size (by repeat (first | (with_reducible first | exact HXA.out | apply below_alloc | apply pw_below_drewN | apply below_drew1) | exact HXA.out)))⟩; clear HXA HXT; have HXA := A1_; have HXT := A3_; have GA280 := A2_; clear A1_ A2_ A3_; have n0_ := Aside0.mk (Kd.S_below (by (with_reducible repeat (first | apply Kd.S_alloc | apply Kd.S_drewN | apply Kd.S_drew)); exact HO273.out) hb); have n1_ := Aside0.mk (Kd.S_below (by (with_reducible repeat (first | apply Kd.S_alloc | apply Kd.S_drewN | apply Kd.S_drew)); exact HO278.out) hb); have n2_ := Aside0.mk (blk_below (g := gb266) (o := .cells #[.int .i64 a0_0, .slice A0_1 l0_1.length c0_1] 24 (0, 0)) (by (with_reducible repeat (first | refine blk_drewN ?_ _ | refine blk_drew ?_ | refine blk_alloc ?_ _)); exact BK266.out) hb); have n3_ := Aside0.mk (blk_below (g := gb267) (o := .cells #[.int .i64 a1_0, .int .i64 a1_1] 55 (0, 0)) (by (with_reducible repeat (first | refine blk_drewN ?_ _ | refine blk_drew ?_ | refine blk_alloc ?_ _)); exact BK267.out) hb); have n4_ := Aside0.mk (blk_below (g := gb274) (o := .cells #[.int .i64 t270, .slice Ao27 t271.length co27] 24 (0, 0)) (by (with_reducible repeat (first | refine blk_drewN ?_ _ | refine blk_drew ?_ | refine blk_alloc ?_ _)); exact BK274.out) hb); have n5_ := Aside0.mk (below_step (by repeat (first | (with_reducible first | exact HB.out | apply below_alloc | apply pw_below_drewN | apply below_drew1 | refine below_set ?_ GE266.out | refine below_set ?_ GE267.out | refine below_set ?_ GE274.out) | exact HB.out)) hb); have n6_ := Aside0.mk (hbox); have n7_ := Aside0.mk ((by rw [hg]; exact (below_size (by repeat (first | (with_reducible first | exact HB.out | apply below_alloc | apply pw_below_drewN | apply below_drew1 | refine below_set ?_ GE266.out | refine below_set ?_ GE267.out | refine below_set ?_ GE274.out) | exact HB.out))) : w.heap.size ≤ gb280)); have n8_ := Aside0.mk ((by rw [hg]; exact (below_size (by repeat (first | (with_reducible first | exact HB.out | apply below_alloc | apply pw_below_drewN | apply below_drew1 | refine below_set ?_ GE266.out | refine below_set ?_ GE267.out | refine below_set ?_ GE274.out) | exact HB.out))) : w.heap.size ≤ gb280)); have n9_ := Aside0.mk ((by rw [hg]; exact Nat.ne_of_lt (blk_lt (g := gb266) (o := .cells #[.int .i64 a0_0, .slice A0_1 l0_1.length c0_1] 24 (0, 0)) (by (with_reducible repeat (first | refine blk_drewN ?_ _ | refine blk_drew ?_ | refine blk_alloc ?_ _)); exact BK266.out)) : gb266 ≠ gb280)); have n10_ := Aside0.mk ((by rw [hg]; exact Nat.ne_of_gt (blk_lt (g := gb266) (o := .cells #[.int .i64 a0_0, .slice A0_1 l0_1.length c0_1] 24 (0, 0)) (by (with_reducible repeat (first | refine blk_drewN ?_ _ | refine blk_drew ?_ | refine blk_alloc ?_ _)); exact BK266.out)) : gb280 ≠ gb266)); have n11_ := Aside0.mk ((by rw [hg]; exact Nat.ne_of_lt (blk_lt (g := gb267) (o := .cells #[.int .i64 a1_0, .int .i64 a1_1] 55 (0, 0)) (by (with_reducible repeat (first | refine blk_drewN ?_ _ | refine blk_drew ?_ | refine blk_alloc ?_ _)); exact BK267.out)) : gb267 ≠ gb280)); have n12_ := Aside0.mk ((by rw [hg]; exact Nat.ne_of_gt (blk_lt (g := gb267) (o := .cells #[.int .i64 a1_0, .int .i64 a1_1] 55 (0, 0)) (by (with_reducible repeat (first | refine blk_drewN ?_ _ | refine blk_drew ?_ | refine blk_alloc ?_ _)); exact BK267.out)) : gb280 ≠ gb267)); have n13_ := Aside0.mk ((by rw [hg]; exact Nat.ne_of_lt (blk_lt (g := gb274) (o := .cells #[.int .i64 t270, .slice Ao27 t271.length co27] 24 (0, 0)) (by (with_reducible repeat (first | refine blk_drewN ?_ _ | refine blk_drew ?_ | refine blk_alloc ?_ _)); exact BK274.out)) : gb274 ≠ gb280)); have n14_ := Aside0.mk ((by rw [hg]; exact Nat.ne_of_gt (blk_lt (g := gb274) (o := .cells #[.int .i64 t270, .slice Ao27 t271.length co27] 24 (0, 0)) (by (with_reducible repeat (first | refine blk_drewN ?_ _ | refine blk_drew ?_ | refine blk_alloc ?_ _)); exact BK274.out)) : gb280 ≠ gb274)); clear HO273; clear HO278; clear BK266; clear BK267; clear BK274; clear HB; have HO273 := n0_; have HO278 := n1_; have BK266 := n2_; have BK267 := n3_; have BK274 := n4_; have HB := n5_; have BK280 := n6_; have GW280 := n7_; have GE280 := n8_; have NB266_280 := n9_; have NB280_266 := n10_; have NB267_280 := n11_; have NB280_267 := n12_; have NB274_280 := n13_; have NB280_274 := n14_; clear n0_ n1_ n2_ n3_ n4_ n5_ n6_ n7_ n8_ n9_ n10_ n11_ n12_ n13_ n14_; clear hb hbox hg; have hnb31 := NB280_266.out; have hnc31 := NB266_280.out; have hnb32 := NB280_267.out; have hnc32 := NB267_280.out; have hnb33 := NB280_274.out; have hnc33 := NB274_280.out; have hcz34_0 : w30.cell? ⟨gb280, 0, none⟩ = some (.int .i64 0) := (blk_cell BK280.out 0).trans rfl; have hcz34_1 : w30.cell? ⟨gb280, 1, none⟩ = some (.slice none 0 0) := (blk_cell BK280.out 1).trans rfl; have hfz34_0 := blk_frozen BK280.out 0; have hfz34_1 := blk_frozen BK280.out 1; obtain ⟨Ao35, co35, eo35⟩ := Kd.S_slice HO278.out; subst eo35; have hcz36_0 : w30.cell? ⟨gb266, 0, none⟩ = some (.int .i64 a0_0) := (blk_cell BK266.out 0).trans rfl; have hcz36_1 : w30.cell? ⟨gb266, 1, none⟩ = some (.slice A0_1 l0_1.length c0_1) := (blk_cell BK266.out 1).trans rfl; have hfz36_0 := blk_frozen BK266.out 0; have hfz36_1 := blk_frozen BK266.out 1; have hcz37_0 : w30.cell? ⟨gb267, 0, none⟩ = some (.int .i64 a1_0) := (blk_cell BK267.out 0).trans rfl; have hcz37_1 : w30.cell? ⟨gb267, 1, none⟩ = some (.int .i64 a1_1) := (blk_cell BK267.out 1).trans rfl; have hfz37_0 := blk_frozen BK267.out 0; have hfz37_1 := blk_frozen BK267.out 1) | ((with_reducible refine gate_callee (f := 44) rfl ?_); refine goesL_ (some 32) rfl rfl Tryd.func44 (by kernel_rfl) rfl #[.agg #[.int .i64 a0_0, .slice A0_1 l0_1.length c0_1], .int .i64 a1_0, .int .i64 a1_1] rfl (by (try simp only [List.map_toArray, List.map_cons, List.map_nil]); first | done | rfl | (simp only [List.length_drop, List.length_take]; rfl)) ?_; (with_reducible refine (familycheckref01_Substitute.calls k a0_0 _ _ l0_1 a1_0 a1_1 t281 t282 t285 _ ?side1 ?side2 A14.out).mono ?_); (case side1 => exact Kd.C_below HR0_1.out (by repeat (first | (with_reducible first | exact HB.out | apply below_alloc | apply pw_below_drewN | apply below_drew1 | refine below_set ?_ GE266.out | refine below_set ?_ GE267.out | refine below_set ?_ GE274.out | refine below_set ?_ GE280.out) | exact HB.out))); (case side2 => exact HC0_1.out); rintro e w38 ⟨v283, rfl, ho0, hb⟩; refine ⟨_, rfl, ?_⟩; have A1_ := Aside0.mk (below_step (by repeat (first | (with_reducible first | exact HXA.out | apply below_alloc | apply pw_below_drewN | apply below_drew1 | refine below_set ?_ GA280.out) | exact HXA.out)) hb); have A3_ := Aside0.mk (Kd.S_below (by (with_reducible repeat (first | apply Kd.S_alloc | apply Kd.S_drewN | apply Kd.S_drew)); exact (Kd.S_mono (Kd.S_far (p := ⟨gb280, 1, none⟩) (Kd.S_far (p := ⟨gb280, 0, none⟩) (Kd.S_types HXT.out BK280.out (by decide)) (fun _ hk => hk.2) (.int .i64 t275)) (fun _ hk => hk.2) (.slice Ao35 t276.length co35)) (fun _ _ => trivial))) hb); have HXU : Aside0 (∀ k_, Value.ownBlock v283 = some k_ → wA.heap.size ≤ k_) := ⟨fun k_ hk_ => Nat.le_trans (below_size (by repeat (first | (with_reducible first | exact HXA.out | apply below_alloc | apply pw_below_drewN | apply below_drew1 | refine below_set ?_ GA280.out) | exact HXA.out))) (Kd.S_base ho0 k_ hk_)⟩; clear HXA HXT; have HXA := A1_; have HXT := A3_; clear A1_ A3_; have n0_ := Aside0.mk (Kd.S_elder' (by (with_reducible repeat (first | apply Kd.S_alloc | apply Kd.S_drewN | apply Kd.S_drew)); exact (Kd.S_mono (Kd.S_far (p := ⟨gb280, 1, none⟩) (Kd.S_far (p := ⟨gb280, 0, none⟩) (Kd.S_types HO273.out BK280.out (by decide)) (fun _ hk => hk.2) (.int .i64 t275)) (fun _ hk => hk.2) (.slice Ao35 t276.length co35)) (fun _ h_ => h_.1))) (Kd.S_base ho0) hb); have n1_ := Aside0.mk (Kd.S_elder' (by (with_reducible repeat (first | apply Kd.S_alloc | apply Kd.S_drewN | apply Kd.S_drew)); exact (Kd.S_mono (Kd.S_far (p := ⟨gb280, 1, none⟩) (Kd.S_far (p := ⟨gb280, 0, none⟩) (Kd.S_types HO278.out BK280.out (by decide)) (fun _ hk => hk.2) (.int .i64 t275)) (fun _ hk => hk.2) (.slice Ao35 t276.length co35)) (fun _ h_ => h_.1))) (Kd.S_base ho0) hb); have n2_ := Aside0.mk (Kd.S_lower (Kd.S_new' (Kd.S_new' ho0 (Kd.S_lt (by (with_reducible repeat (first | apply Kd.S_alloc | apply Kd.S_drewN | apply Kd.S_drew)); exact (Kd.S_mono (Kd.S_far (p := ⟨gb280, 1, none⟩) (Kd.S_far (p := ⟨gb280, 0, none⟩) (Kd.S_types HO273.out BK280.out (by decide)) (fun _ hk => hk.2) (.int .i64 t275)) (fun _ hk => hk.2) (.slice Ao35 t276.length co35)) (fun _ h_ => h_.1))))) (Kd.S_lt (by (with_reducible repeat (first | apply Kd.S_alloc | apply Kd.S_drewN | apply Kd.S_drew)); exact (Kd.S_mono (Kd.S_far (p := ⟨gb280, 1, none⟩) (Kd.S_far (p := ⟨gb280, 0, none⟩) (Kd.S_types HO278.out BK280.out (by decide)) (fun _ hk => hk.2) (.int .i64 t275)) (fun _ hk => hk.2) (.slice Ao35 t276.length co35)) (fun _ h_ => h_.1))))) (below_size (by repeat (first | (with_reducible first | exact HB.out | apply below_alloc | apply pw_below_drewN | apply below_drew1 | refine below_set ?_ GE266.out | refine below_set ?_ GE267.out | refine below_set ?_ GE274.out | refine below_set ?_ GE280.out) | exact HB.out)))); have n3_ := Aside0.mk (blk_below (g := gb266) (o := .cells #[.int .i64 a0_0, .slice A0_1 l0_1.length c0_1] 24 (0, 0)) (by (with_reducible repeat (first | refine blk_drewN ?_ _ | refine blk_drew ?_ | refine blk_alloc ?_ _)); refine blk_far ?_ NB266_280.out _; (with_reducible repeat (first | refine blk_drewN ?_ _ | refine blk_drew ?_ | refine blk_alloc ?_ _)); refine blk_far ?_ NB266_280.out _; (with_reducible repeat (first | refine blk_drewN ?_ _ | refine blk_drew ?_ | refine blk_alloc ?_ _)); exact BK266.out) hb); have n4_ := Aside0.mk (blk_below (g := gb267) (o := .cells #[.int .i64 a1_0, .int .i64 a1_1] 55 (0, 0)) (by (with_reducible repeat (first | refine blk_drewN ?_ _ | refine blk_drew ?_ | refine blk_alloc ?_ _)); refine blk_far ?_ NB267_280.out _; (with_reducible repeat (first | refine blk_drewN ?_ _ | refine blk_drew ?_ | refine blk_alloc ?_ _)); refine blk_far ?_ NB267_280.out _; (with_reducible repeat (first | refine blk_drewN ?_ _ | refine blk_drew ?_ | refine blk_alloc ?_ _)); exact BK267.out) hb); have n5_ := Aside0.mk (blk_below (g := gb274) (o := .cells #[.int .i64 t270, .slice Ao27 t271.length co27] 24 (0, 0)) (by (with_reducible repeat (first | refine blk_drewN ?_ _ | refine blk_drew ?_ | refine blk_alloc ?_ _)); refine blk_far ?_ NB274_280.out _; (with_reducible repeat (first | refine blk_drewN ?_ _ | refine blk_drew ?_ | refine blk_alloc ?_ _)); refine blk_far ?_ NB274_280.out _; (with_reducible repeat (first | refine blk_drewN ?_ _ | refine blk_drew ?_ | refine blk_alloc ?_ _)); exact BK274.out) hb); have n6_ := Aside0.mk (blk_below (g := gb280) (o := .cells #[.int .i64 t275, .slice Ao35 t276.length co35] 24 (0, 0)) (by (with_reducible repeat (first | refine blk_drewN ?_ _ | refine blk_drew ?_ | refine blk_alloc ?_ _)); refine blk_put (cs := #[.int .i64 t275, .slice none 0 0]) ?_ 1 _ rfl; (with_reducible repeat (first | refine blk_drewN ?_ _ | refine blk_drew ?_ | refine blk_alloc ?_ _)); refine blk_put (cs := #[.int .i64 0, .slice none 0 0]) ?_ 0 _ rfl; (with_reducible repeat (first | refine blk_drewN ?_ _ | refine blk_drew ?_ | refine blk_alloc ?_ _)); exact BK280.out) hb); have n7_ := Aside0.mk (below_step (by repeat (first | (with_reducible first | exact HB.out | apply below_alloc | apply pw_below_drewN | apply below_drew1 | refine below_set ?_ GE266.out | refine below_set ?_ GE267.out | refine below_set ?_ GE274.out | refine below_set ?_ GE280.out) | exact HB.out)) hb); clear HO273; clear HO278; clear BK266; clear BK267; clear BK274; clear BK280; clear HB; have HO273 := n0_; have HO278 := n1_; have HO284 := n2_; have BK266 := n3_; have BK267 := n4_; have BK274 := n5_; have BK280 := n6_; have HB := n7_; clear n0_ n1_ n2_ n3_ n4_ n5_ n6_ n7_; (try clear hb); (try clear hb2); (try clear hk); (try clear hi); (try clear ho0)) | ((with_reducible refine gate_dst (N := 8) rfl ?_); refine box_event ?hg (N := 8) ?hd (cs := #[.int .i64 0, .slice none 0 0]) (t := 24) ?hr ?_; (case hd => rfl); (case hg => rfl); (case hr => first | (go_simp; done) | (go_simp; rfl)); intro gb286 hg w39 hbox hb; have A1_ := Aside0.mk (below_step (by repeat (first | (with_reducible first | exact HXA.out | apply below_alloc | apply pw_below_drewN | apply below_drew1 | refine below_set ?_ GA280.out) | exact HXA.out)) hb); have A3_ := Aside0.mk (Kd.S_below (by (with_reducible repeat (first | apply Kd.S_alloc | apply Kd.S_drewN | apply Kd.S_drew)); exact HXT.out) hb); have A2_ : Aside0 (wA.heap.size ≤ gb286) := ⟨by rw [hg]; exact (below_size (by repeat (first | (with_reducible first | exact HXA.out | apply below_alloc | apply pw_below_drewN | apply below_drew1 | refine below_set ?_ GA280.out) | exact HXA.out)))⟩; clear HXA HXT; have HXA := A1_; have HXT := A3_; have GA286 := A2_; clear A1_ A2_ A3_; have n0_ := Aside0.mk (Kd.S_below (by (with_reducible repeat (first | apply Kd.S_alloc | apply Kd.S_drewN | apply Kd.S_drew)); exact HO273.out) hb); have n1_ := Aside0.mk (Kd.S_below (by (with_reducible repeat (first | apply Kd.S_alloc | apply Kd.S_drewN | apply Kd.S_drew)); exact HO278.out) hb); have n2_ := Aside0.mk (Kd.S_below (by (with_reducible repeat (first | apply Kd.S_alloc | apply Kd.S_drewN | apply Kd.S_drew)); exact HO284.out) hb); have n3_ := Aside0.mk (blk_below (g := gb266) (o := .cells #[.int .i64 a0_0, .slice A0_1 l0_1.length c0_1] 24 (0, 0)) (by (with_reducible repeat (first | refine blk_drewN ?_ _ | refine blk_drew ?_ | refine blk_alloc ?_ _)); exact BK266.out) hb); have n4_ := Aside0.mk (blk_below (g := gb267) (o := .cells #[.int .i64 a1_0, .int .i64 a1_1] 55 (0, 0)) (by (with_reducible repeat (first | refine blk_drewN ?_ _ | refine blk_drew ?_ | refine blk_alloc ?_ _)); exact BK267.out) hb); have n5_ := Aside0.mk (blk_below (g := gb274) (o := .cells #[.int .i64 t270, .slice Ao27 t271.length co27] 24 (0, 0)) (by (with_reducible repeat (first | refine blk_drewN ?_ _ | refine blk_drew ?_ | refine blk_alloc ?_ _)); exact BK274.out) hb); have n6_ := Aside0.mk (blk_below (g := gb280) (o := .cells #[.int .i64 t275, .slice Ao35 t276.length co35] 24 (0, 0)) (by (with_reducible repeat (first | refine blk_drewN ?_ _ | refine blk_drew ?_ | refine blk_alloc ?_ _)); exact BK280.out) hb); have n7_ := Aside0.mk (below_step (by repeat (first | (with_reducible first | exact HB.out | apply below_alloc | apply pw_below_drewN | apply below_drew1 | refine below_set ?_ GE266.out | refine below_set ?_ GE267.out | refine below_set ?_ GE274.out | refine below_set ?_ GE280.out) | exact HB.out)) hb); have n8_ := Aside0.mk (hbox); have n9_ := Aside0.mk ((by rw [hg]; exact (below_size (by repeat (first | (with_reducible first | exact HB.out | apply below_alloc | apply pw_below_drewN | apply below_drew1 | refine below_set ?_ GE266.out | refine below_set ?_ GE267.out | refine below_set ?_ GE274.out | refine below_set ?_ GE280.out) | exact HB.out))) : w.heap.size ≤ gb286)); have n10_ := Aside0.mk ((by rw [hg]; exact (below_size (by repeat (first | (with_reducible first | exact HB.out | apply below_alloc | apply pw_below_drewN | apply below_drew1 | refine below_set ?_ GE266.out | refine below_set ?_ GE267.out | refine below_set ?_ GE274.out | refine below_set ?_ GE280.out) | exact HB.out))) : w.heap.size ≤ gb286)); have n11_ := Aside0.mk ((by rw [hg]; exact Nat.ne_of_lt (blk_lt (g := gb266) (o := .cells #[.int .i64 a0_0, .slice A0_1 l0_1.length c0_1] 24 (0, 0)) (by (with_reducible repeat (first | refine blk_drewN ?_ _ | refine blk_drew ?_ | refine blk_alloc ?_ _)); exact BK266.out)) : gb266 ≠ gb286)); have n12_ := Aside0.mk ((by rw [hg]; exact Nat.ne_of_gt (blk_lt (g := gb266) (o := .cells #[.int .i64 a0_0, .slice A0_1 l0_1.length c0_1] 24 (0, 0)) (by (with_reducible repeat (first | refine blk_drewN ?_ _ | refine blk_drew ?_ | refine blk_alloc ?_ _)); exact BK266.out)) : gb286 ≠ gb266)); have n13_ := Aside0.mk ((by rw [hg]; exact Nat.ne_of_lt (blk_lt (g := gb267) (o := .cells #[.int .i64 a1_0, .int .i64 a1_1] 55 (0, 0)) (by (with_reducible repeat (first | refine blk_drewN ?_ _ | refine blk_drew ?_ | refine blk_alloc ?_ _)); exact BK267.out)) : gb267 ≠ gb286)); have n14_ := Aside0.mk ((by rw [hg]; exact Nat.ne_of_gt (blk_lt (g := gb267) (o := .cells #[.int .i64 a1_0, .int .i64 a1_1] 55 (0, 0)) (by (with_reducible repeat (first | refine blk_drewN ?_ _ | refine blk_drew ?_ | refine blk_alloc ?_ _)); exact BK267.out)) : gb286 ≠ gb267)); have n15_ := Aside0.mk ((by rw [hg]; exact Nat.ne_of_lt (blk_lt (g := gb274) (o := .cells #[.int .i64 t270, .slice Ao27 t271.length co27] 24 (0, 0)) (by (with_reducible repeat (first | refine blk_drewN ?_ _ | refine blk_drew ?_ | refine blk_alloc ?_ _)); exact BK274.out)) : gb274 ≠ gb286)); have n16_ := Aside0.mk ((by rw [hg]; exact Nat.ne_of_gt (blk_lt (g := gb274) (o := .cells #[.int .i64 t270, .slice Ao27 t271.length co27] 24 (0, 0)) (by (with_reducible repeat (first | refine blk_drewN ?_ _ | refine blk_drew ?_ | refine blk_alloc ?_ _)); exact BK274.out)) : gb286 ≠ gb274)); have n17_ := Aside0.mk ((by rw [hg]; exact Nat.ne_of_lt (blk_lt (g := gb280) (o := .cells #[.int .i64 t275, .slice Ao35 t276.length co35] 24 (0, 0)) (by (with_reducible repeat (first | refine blk_drewN ?_ _ | refine blk_drew ?_ | refine blk_alloc ?_ _)); exact BK280.out)) : gb280 ≠ gb286)); have n18_ := Aside0.mk ((by rw [hg]; exact Nat.ne_of_gt (blk_lt (g := gb280) (o := .cells #[.int .i64 t275, .slice Ao35 t276.length co35] 24 (0, 0)) (by (with_reducible repeat (first | refine blk_drewN ?_ _ | refine blk_drew ?_ | refine blk_alloc ?_ _)); exact BK280.out)) : gb286 ≠ gb280)); clear HO273; clear HO278; clear HO284; clear BK266; clear BK267; clear BK274; clear BK280; clear HB; have HO273 := n0_; have HO278 := n1_; have HO284 := n2_; have BK266 := n3_; have BK267 := n4_; have BK274 := n5_; have BK280 := n6_; have HB := n7_; have BK286 := n8_; have GW286 := n9_; have GE286 := n10_; have NB266_286 := n11_; have NB286_266 := n12_; have NB267_286 := n13_; have NB286_267 := n14_; have NB274_286 := n15_; have NB286_274 := n16_; have NB280_286 := n17_; have NB286_280 := n18_; clear n0_ n1_ n2_ n3_ n4_ n5_ n6_ n7_ n8_ n9_ n10_ n11_ n12_ n13_ n14_ n15_ n16_ n17_ n18_; clear hb hbox hg; have hnb40 := NB286_266.out; have hnc40 := NB266_286.out; have hnb41 := NB286_267.out; have hnc41 := NB267_286.out; have hnb42 := NB286_274.out; have hnc42 := NB274_286.out; have hnb43 := NB286_280.out; have hnc43 := NB280_286.out; have hcz44_0 : w39.cell? ⟨gb286, 0, none⟩ = some (.int .i64 0) := (blk_cell BK286.out 0).trans rfl; have hcz44_1 : w39.cell? ⟨gb286, 1, none⟩ = some (.slice none 0 0) := (blk_cell BK286.out 1).trans rfl; have hfz44_0 := blk_frozen BK286.out 0; have hfz44_1 := blk_frozen BK286.out 1; obtain ⟨Ao45, co45, eo45⟩ := Kd.S_slice HO284.out; subst eo45))
    (try simp only [Act.put, List.setIfInBounds_toArray, List.set_cons_zero, List.set_cons_succ])
    go_cut [10] (fun v10 wc => ∃ (kq : Nat) (x10_14 : Bool), v10 = .bool x10_14 ∧ Aside0 (familychecklaw01_LinearSubstitutes.j0 kq x10_14 a0_0 l0_1 t270 t271 t275 t276 = some r) ∧ Aside0 (kq ≤ k) ∧ Aside0 (Kd.S k33 33 wc w.heap.size (fun k_ => some k_ ≠ ((.slice Ao35 t276.length co35) : Value).ownBlock ∧ some k_ ≠ ((.slice Ao45 t282.length co45) : Value).ownBlock) (.slice Ao27 t271.length co27) t271) ∧ Aside0 (Kd.S k33 33 wc w.heap.size (fun k_ => some k_ ≠ ((.slice Ao27 t271.length co27) : Value).ownBlock ∧ some k_ ≠ ((.slice Ao45 t282.length co45) : Value).ownBlock) (.slice Ao35 t276.length co35) t276) ∧ Aside0 (Kd.S k33 33 wc w.heap.size (fun k_ => some k_ ≠ ((.slice Ao27 t271.length co27) : Value).ownBlock ∧ some k_ ≠ ((.slice Ao35 t276.length co35) : Value).ownBlock) (.slice Ao45 t282.length co45) t282) ∧ Aside0 (wc.heap[gb266]? = some (.cells #[.int .i64 a0_0, (.slice A0_1 l0_1.length c0_1)] 24 (0, 0))) ∧ Aside0 (wc.heap[gb267]? = some (.cells #[.int .i64 a1_0, .int .i64 a1_1] 55 (0, 0))) ∧ Aside0 (wc.heap[gb274]? = some (.cells #[.int .i64 t270, (.slice Ao27 t271.length co27)] 24 (0, 0))) ∧ Aside0 (wc.heap[gb280]? = some (.cells #[.int .i64 t275, (.slice Ao35 t276.length co35)] 24 (0, 0))) ∧ Aside0 (wc.heap[gb286]? = some (.cells #[.int .i64 t281, (.slice Ao45 t282.length co45)] 24 (0, 0))) ∧ Aside0 (Below w.heap.size w wc) ∧ Aside0 (Kd.S k33 33 wc wA.heap.size (fun _ => True) (.slice Ao35 t276.length co35) t276) ∧ Aside0 (Below wA.heap.size wA wc))
    case first =>
      have H := HC15.out
      clear HC15
      by_cases c46 : t279 = t285
      · rw [if_pos c46] at H
        have c46b0 : (t279 == t285) = true := beq_iff_eq.mpr c46
        have c46b1 : (t279 != t285) = false := bne_eq_false_iff_eq.mpr c46
        clear c46
        (first | rw [c46b0] | (simp only [i64_w, i32_w]; rw [c46b0]) | skip)
        replace H := Option.bind_eq_some_iff.mp H
        obtain ⟨t287, A470, H⟩ := H
        replace H : (familychecklaw01_LinearSubstitutes.j0 k t287 a0_0 l0_1 t270 t271 t275 t276) = some r := H
        have A47 := Aside0.mk A470
        clear A470
        have H' := Aside0.mk H
        clear H
        have hnb48 := NB280_266.out
        have hnc48 := NB266_280.out
        have hnb49 := NB280_267.out
        have hnc49 := NB267_280.out
        have hnb50 := NB280_274.out
        have hnc50 := NB274_280.out
        have hnb51 := NB280_286.out
        have hnc51 := NB286_280.out
        have hcz52_0 : w39.cell? ⟨gb280, 0, none⟩ = some (.int .i64 t275) := (blk_cell BK280.out 0).trans rfl
        have hcz52_1 : w39.cell? ⟨gb280, 1, none⟩ = some (.slice Ao35 t276.length co35) := (blk_cell BK280.out 1).trans rfl
        have hfz52_0 := blk_frozen BK280.out 0
        have hfz52_1 := blk_frozen BK280.out 1
        have hnb53 := NB286_266.out
        have hnc53 := NB266_286.out
        have hnb54 := NB286_267.out
        have hnc54 := NB267_286.out
        have hnb55 := NB286_274.out
        have hnc55 := NB274_286.out
        have hcz56_0 : w39.cell? ⟨gb286, 0, none⟩ = some (.int .i64 0) := (blk_cell BK286.out 0).trans rfl
        have hcz56_1 : w39.cell? ⟨gb286, 1, none⟩ = some (.slice none 0 0) := (blk_cell BK286.out 1).trans rfl
        have hfz56_0 := blk_frozen BK286.out 0
        have hfz56_1 := blk_frozen BK286.out 1
        go_wp2_with (first | (go_at_call 20; (with_reducible refine (familycheckref01_SameSystem.calls k t275 _ _ t276 t281 _ _ t282 t287 _ ?side1 ?side2 ?side3 ?side4 A47.out).mono ?_); (case side1 => refine (Kd.S_reads' (e := 33) (base := w.heap.size) (ok := fun k_ => ((True ∧ some k_ ≠ (.slice Ao27 t271.length co27 : Value).ownBlock) ∧ some k_ ≠ (.slice Ao45 t282.length co45 : Value).ownBlock)) (n := t276.length) (c := co35) ?_).2.2; exact (by (with_reducible repeat (first | apply Kd.S_alloc | apply Kd.S_drewN | apply Kd.S_drew)); exact (Kd.S_mono (Kd.S_far (p := ⟨gb286, 1, none⟩) (Kd.S_far (p := ⟨gb286, 0, none⟩) (Kd.S_types HO278.out BK286.out (by decide)) (fun _ hk => hk.2) (.int .i64 t281)) (fun _ hk => hk.2) (.slice Ao45 t282.length co45)) (fun _ h_ => h_.1)))); (case side2 => exact (Kd.S_reads' HO278.out).2.1); (case side3 => refine (Kd.S_reads' (e := 33) (base := w.heap.size) (ok := fun k_ => ((True ∧ some k_ ≠ (.slice Ao27 t271.length co27 : Value).ownBlock) ∧ some k_ ≠ (.slice Ao35 t276.length co35 : Value).ownBlock)) (n := t282.length) (c := co45) ?_).2.2; exact (by (with_reducible repeat (first | apply Kd.S_alloc | apply Kd.S_drewN | apply Kd.S_drew)); exact (Kd.S_mono (Kd.S_far (p := ⟨gb286, 1, none⟩) (Kd.S_far (p := ⟨gb286, 0, none⟩) (Kd.S_types HO284.out BK286.out (by decide)) (fun _ hk => hk.2) (.int .i64 t281)) (fun _ hk => hk.2) (.slice Ao45 t282.length co45)) (fun _ h_ => h_.1)))); (case side4 => exact (Kd.S_reads' HO284.out).2.1); rintro e w57 ⟨rfl, hb⟩; have A1_ := Aside0.mk (below_step (by repeat (first | (with_reducible first | exact HXA.out | apply below_alloc | apply pw_below_drewN | apply below_drew1 | refine below_set ?_ GA280.out | refine below_set ?_ GA286.out) | exact HXA.out)) hb); have A3_ := Aside0.mk (Kd.S_below (by (with_reducible repeat (first | apply Kd.S_alloc | apply Kd.S_drewN | apply Kd.S_drew)); exact (Kd.S_mono (Kd.S_far (p := ⟨gb286, 1, none⟩) (Kd.S_far (p := ⟨gb286, 0, none⟩) (Kd.S_types HXT.out BK286.out (by decide)) (fun _ hk => hk.2) (.int .i64 t281)) (fun _ hk => hk.2) (.slice Ao45 t282.length co45)) (fun _ _ => trivial))) hb); clear HXA HXT; have HXA := A1_; have HXT := A3_; clear A1_ A3_; have n0_ := Aside0.mk (Kd.S_below (by (with_reducible repeat (first | apply Kd.S_alloc | apply Kd.S_drewN | apply Kd.S_drew)); exact (Kd.S_mono (Kd.S_far (p := ⟨gb286, 1, none⟩) (Kd.S_far (p := ⟨gb286, 0, none⟩) (Kd.S_types HO273.out BK286.out (by decide)) (fun _ hk => hk.2) (.int .i64 t281)) (fun _ hk => hk.2) (.slice Ao45 t282.length co45)) (fun _ h_ => h_.1))) hb); have n1_ := Aside0.mk (Kd.S_below (by (with_reducible repeat (first | apply Kd.S_alloc | apply Kd.S_drewN | apply Kd.S_drew)); exact (Kd.S_mono (Kd.S_far (p := ⟨gb286, 1, none⟩) (Kd.S_far (p := ⟨gb286, 0, none⟩) (Kd.S_types HO278.out BK286.out (by decide)) (fun _ hk => hk.2) (.int .i64 t281)) (fun _ hk => hk.2) (.slice Ao45 t282.length co45)) (fun _ h_ => h_.1))) hb); have n2_ := Aside0.mk (Kd.S_below (by (with_reducible repeat (first | apply Kd.S_alloc | apply Kd.S_drewN | apply Kd.S_drew)); exact (Kd.S_mono (Kd.S_far (p := ⟨gb286, 1, none⟩) (Kd.S_far (p := ⟨gb286, 0, none⟩) (Kd.S_types HO284.out BK286.out (by decide)) (fun _ hk => hk.2) (.int .i64 t281)) (fun _ hk => hk.2) (.slice Ao45 t282.length co45)) (fun _ h_ => h_.1))) hb); have n3_ := Aside0.mk (blk_below (g := gb266) (o := .cells #[.int .i64 a0_0, .slice A0_1 l0_1.length c0_1] 24 (0, 0)) (by (with_reducible repeat (first | refine blk_drewN ?_ _ | refine blk_drew ?_ | refine blk_alloc ?_ _)); refine blk_far ?_ NB266_286.out _; (with_reducible repeat (first | refine blk_drewN ?_ _ | refine blk_drew ?_ | refine blk_alloc ?_ _)); refine blk_far ?_ NB266_286.out _; (with_reducible repeat (first | refine blk_drewN ?_ _ | refine blk_drew ?_ | refine blk_alloc ?_ _)); exact BK266.out) hb); have n4_ := Aside0.mk (blk_below (g := gb267) (o := .cells #[.int .i64 a1_0, .int .i64 a1_1] 55 (0, 0)) (by (with_reducible repeat (first | refine blk_drewN ?_ _ | refine blk_drew ?_ | refine blk_alloc ?_ _)); refine blk_far ?_ NB267_286.out _; (with_reducible repeat (first | refine blk_drewN ?_ _ | refine blk_drew ?_ | refine blk_alloc ?_ _)); refine blk_far ?_ NB267_286.out _; (with_reducible repeat (first | refine blk_drewN ?_ _ | refine blk_drew ?_ | refine blk_alloc ?_ _)); exact BK267.out) hb); have n5_ := Aside0.mk (blk_below (g := gb274) (o := .cells #[.int .i64 t270, .slice Ao27 t271.length co27] 24 (0, 0)) (by (with_reducible repeat (first | refine blk_drewN ?_ _ | refine blk_drew ?_ | refine blk_alloc ?_ _)); refine blk_far ?_ NB274_286.out _; (with_reducible repeat (first | refine blk_drewN ?_ _ | refine blk_drew ?_ | refine blk_alloc ?_ _)); refine blk_far ?_ NB274_286.out _; (with_reducible repeat (first | refine blk_drewN ?_ _ | refine blk_drew ?_ | refine blk_alloc ?_ _)); exact BK274.out) hb); have n6_ := Aside0.mk (blk_below (g := gb280) (o := .cells #[.int .i64 t275, .slice Ao35 t276.length co35] 24 (0, 0)) (by (with_reducible repeat (first | refine blk_drewN ?_ _ | refine blk_drew ?_ | refine blk_alloc ?_ _)); refine blk_far ?_ NB280_286.out _; (with_reducible repeat (first | refine blk_drewN ?_ _ | refine blk_drew ?_ | refine blk_alloc ?_ _)); refine blk_far ?_ NB280_286.out _; (with_reducible repeat (first | refine blk_drewN ?_ _ | refine blk_drew ?_ | refine blk_alloc ?_ _)); exact BK280.out) hb); have n7_ := Aside0.mk (blk_below (g := gb286) (o := .cells #[.int .i64 t281, .slice Ao45 t282.length co45] 24 (0, 0)) (by (with_reducible repeat (first | refine blk_drewN ?_ _ | refine blk_drew ?_ | refine blk_alloc ?_ _)); refine blk_put (cs := #[.int .i64 t281, .slice none 0 0]) ?_ 1 _ rfl; (with_reducible repeat (first | refine blk_drewN ?_ _ | refine blk_drew ?_ | refine blk_alloc ?_ _)); refine blk_put (cs := #[.int .i64 0, .slice none 0 0]) ?_ 0 _ rfl; (with_reducible repeat (first | refine blk_drewN ?_ _ | refine blk_drew ?_ | refine blk_alloc ?_ _)); exact BK286.out) hb); have n8_ := Aside0.mk (below_step (by repeat (first | (with_reducible first | exact HB.out | apply below_alloc | apply pw_below_drewN | apply below_drew1 | refine below_set ?_ GE266.out | refine below_set ?_ GE267.out | refine below_set ?_ GE274.out | refine below_set ?_ GE280.out | refine below_set ?_ GE286.out) | exact HB.out)) hb); clear HO273; clear HO278; clear HO284; clear BK266; clear BK267; clear BK274; clear BK280; clear BK286; clear HB; have HO273 := n0_; have HO278 := n1_; have HO284 := n2_; have BK266 := n3_; have BK267 := n4_; have BK274 := n5_; have BK280 := n6_; have BK286 := n7_; have HB := n8_; clear n0_ n1_ n2_ n3_ n4_ n5_ n6_ n7_ n8_; (try clear hb); (try clear hb2); (try clear hk); (try clear hi)))
        go_meet
        case rel => exact ⟨_, (t287), (by first | rfl | (simp; done) | (simp [*]; done)), H', ⟨by first | omega | exact Nat.le_refl _⟩, ⟨by (with_reducible repeat (first | apply Kd.S_alloc | apply Kd.S_drewN | apply Kd.S_drew)); exact Kd.S_mono HO273.out (fun _ hk => ⟨hk.1.2, hk.2⟩)⟩, ⟨by (with_reducible repeat (first | apply Kd.S_alloc | apply Kd.S_drewN | apply Kd.S_drew)); exact Kd.S_mono HO278.out (fun _ hk => ⟨hk.1.2, hk.2⟩)⟩, ⟨by (with_reducible repeat (first | apply Kd.S_alloc | apply Kd.S_drewN | apply Kd.S_drew)); exact Kd.S_mono HO284.out (fun _ hk => ⟨hk.1.2, hk.2⟩)⟩, ⟨by (with_reducible repeat (first | refine blk_drewN ?_ _ | refine blk_drew ?_ | refine blk_alloc ?_ _)); exact BK266.out⟩, ⟨by (with_reducible repeat (first | refine blk_drewN ?_ _ | refine blk_drew ?_ | refine blk_alloc ?_ _)); exact BK267.out⟩, ⟨by (with_reducible repeat (first | refine blk_drewN ?_ _ | refine blk_drew ?_ | refine blk_alloc ?_ _)); exact BK274.out⟩, ⟨by (with_reducible repeat (first | refine blk_drewN ?_ _ | refine blk_drew ?_ | refine blk_alloc ?_ _)); exact BK280.out⟩, ⟨by (with_reducible repeat (first | refine blk_drewN ?_ _ | refine blk_drew ?_ | refine blk_alloc ?_ _)); exact BK286.out⟩, ⟨by repeat (first | (with_reducible first | exact HB.out | apply below_alloc | apply pw_below_drewN | apply below_drew1 | refine below_set ?_ GE266.out | refine below_set ?_ GE267.out | refine below_set ?_ GE274.out | refine below_set ?_ GE280.out | refine below_set ?_ GE286.out) | exact HB.out)⟩, ⟨by (with_reducible repeat (first | apply Kd.S_alloc | apply Kd.S_drewN | apply Kd.S_drew)); first | exact HXT.out | (exact (Kd.S_mono (Kd.S_far (p := ⟨gb286, 1, none⟩) (Kd.S_far (p := ⟨gb286, 0, none⟩) (Kd.S_types HXT.out BK286.out (by decide)) (fun _ hk => hk.2) (.int .i64 t281)) (fun _ hk => hk.2) (.slice Ao45 t282.length co45)) (fun _ _ => trivial)))⟩, ⟨by repeat (first | (with_reducible first | exact HXA.out | apply below_alloc | apply pw_below_drewN | apply below_drew1 | refine below_set ?_ GA280.out | refine below_set ?_ GA286.out) | exact HXA.out)⟩⟩
      · rw [if_neg c46] at H
        have c46b0 : (t279 == t285) = false := beq_eq_false_iff_ne.mpr c46
        have c46b1 : (t279 != t285) = true := bne_iff_ne.mpr c46
        (first | rw [c46b0] | (simp only [i64_w, i32_w]; rw [c46b0]) | skip)
        have H' := Aside0.mk H
        clear H
        go_wp2
        go_meet
        case rel => exact ⟨_, (false), (by first | rfl | (simp; done) | (simp [*]; done)), H', ⟨by first | omega | exact Nat.le_refl _⟩, ⟨by (with_reducible repeat (first | apply Kd.S_alloc | apply Kd.S_drewN | apply Kd.S_drew)); exact Kd.S_mono (Kd.S_far (p := ⟨gb286, 1, none⟩) (Kd.S_far (p := ⟨gb286, 0, none⟩) (Kd.S_types HO273.out BK286.out (by decide)) (fun _ hk => hk.2) (.int .i64 t281)) (fun _ hk => hk.2) (.slice Ao45 t282.length co45)) (fun _ hk => ⟨hk.1.1.2, hk.1.2⟩)⟩, ⟨by (with_reducible repeat (first | apply Kd.S_alloc | apply Kd.S_drewN | apply Kd.S_drew)); exact Kd.S_mono (Kd.S_far (p := ⟨gb286, 1, none⟩) (Kd.S_far (p := ⟨gb286, 0, none⟩) (Kd.S_types HO278.out BK286.out (by decide)) (fun _ hk => hk.2) (.int .i64 t281)) (fun _ hk => hk.2) (.slice Ao45 t282.length co45)) (fun _ hk => ⟨hk.1.1.2, hk.1.2⟩)⟩, ⟨by (with_reducible repeat (first | apply Kd.S_alloc | apply Kd.S_drewN | apply Kd.S_drew)); exact Kd.S_mono (Kd.S_far (p := ⟨gb286, 1, none⟩) (Kd.S_far (p := ⟨gb286, 0, none⟩) (Kd.S_types HO284.out BK286.out (by decide)) (fun _ hk => hk.2) (.int .i64 t281)) (fun _ hk => hk.2) (.slice Ao45 t282.length co45)) (fun _ hk => ⟨hk.1.1.2, hk.1.2⟩)⟩, ⟨by (with_reducible repeat (first | refine blk_drewN ?_ _ | refine blk_drew ?_ | refine blk_alloc ?_ _)); refine blk_far ?_ NB266_286.out _; (with_reducible repeat (first | refine blk_drewN ?_ _ | refine blk_drew ?_ | refine blk_alloc ?_ _)); refine blk_far ?_ NB266_286.out _; (with_reducible repeat (first | refine blk_drewN ?_ _ | refine blk_drew ?_ | refine blk_alloc ?_ _)); exact BK266.out⟩, ⟨by (with_reducible repeat (first | refine blk_drewN ?_ _ | refine blk_drew ?_ | refine blk_alloc ?_ _)); refine blk_far ?_ NB267_286.out _; (with_reducible repeat (first | refine blk_drewN ?_ _ | refine blk_drew ?_ | refine blk_alloc ?_ _)); refine blk_far ?_ NB267_286.out _; (with_reducible repeat (first | refine blk_drewN ?_ _ | refine blk_drew ?_ | refine blk_alloc ?_ _)); exact BK267.out⟩, ⟨by (with_reducible repeat (first | refine blk_drewN ?_ _ | refine blk_drew ?_ | refine blk_alloc ?_ _)); refine blk_far ?_ NB274_286.out _; (with_reducible repeat (first | refine blk_drewN ?_ _ | refine blk_drew ?_ | refine blk_alloc ?_ _)); refine blk_far ?_ NB274_286.out _; (with_reducible repeat (first | refine blk_drewN ?_ _ | refine blk_drew ?_ | refine blk_alloc ?_ _)); exact BK274.out⟩, ⟨by (with_reducible repeat (first | refine blk_drewN ?_ _ | refine blk_drew ?_ | refine blk_alloc ?_ _)); refine blk_far ?_ NB280_286.out _; (with_reducible repeat (first | refine blk_drewN ?_ _ | refine blk_drew ?_ | refine blk_alloc ?_ _)); refine blk_far ?_ NB280_286.out _; (with_reducible repeat (first | refine blk_drewN ?_ _ | refine blk_drew ?_ | refine blk_alloc ?_ _)); exact BK280.out⟩, ⟨by (with_reducible repeat (first | refine blk_drewN ?_ _ | refine blk_drew ?_ | refine blk_alloc ?_ _)); refine blk_put (cs := #[.int .i64 t281, .slice none 0 0]) ?_ 1 _ rfl; (with_reducible repeat (first | refine blk_drewN ?_ _ | refine blk_drew ?_ | refine blk_alloc ?_ _)); refine blk_put (cs := #[.int .i64 0, .slice none 0 0]) ?_ 0 _ rfl; (with_reducible repeat (first | refine blk_drewN ?_ _ | refine blk_drew ?_ | refine blk_alloc ?_ _)); exact BK286.out⟩, ⟨by repeat (first | (with_reducible first | exact HB.out | apply below_alloc | apply pw_below_drewN | apply below_drew1 | refine below_set ?_ GE266.out | refine below_set ?_ GE267.out | refine below_set ?_ GE274.out | refine below_set ?_ GE280.out | refine below_set ?_ GE286.out) | exact HB.out)⟩, ⟨by (with_reducible repeat (first | apply Kd.S_alloc | apply Kd.S_drewN | apply Kd.S_drew)); first | exact HXT.out | (exact (Kd.S_mono (Kd.S_far (p := ⟨gb286, 1, none⟩) (Kd.S_far (p := ⟨gb286, 0, none⟩) (Kd.S_types HXT.out BK286.out (by decide)) (fun _ hk => hk.2) (.int .i64 t281)) (fun _ hk => hk.2) (.slice Ao45 t282.length co45)) (fun _ _ => trivial)))⟩, ⟨by repeat (first | (with_reducible first | exact HXA.out | apply below_alloc | apply pw_below_drewN | apply below_drew1 | refine below_set ?_ GA280.out | refine below_set ?_ GA286.out) | exact HXA.out)⟩⟩
    case rest =>
      clear HC15
      try clear c1
      try clear c2
      try clear p2
      try clear c3
      try clear c4
      try clear c5
      try clear c8
      try clear c12
      try clear c15
      try clear c16
      try clear c17
      try clear c18
      try clear c24
      try clear c25
      try clear c31
      try clear c32
      try clear c33
      try clear c40
      try clear c41
      try clear c42
      try clear c43
      try clear c44
      try clear c46
      try clear c46b0
      try clear c46b1
      try clear c48
      try clear c49
      try clear c50
      try clear c51
      try clear c53
      try clear c54
      try clear c55
      try clear hcz19_0
      try clear hcz19_1
      try clear hcz21_0
      try clear hcz21_1
      try clear hcz26_0
      try clear hcz26_1
      try clear hcz28_0
      try clear hcz28_1
      try clear hcz34_0
      try clear hcz34_1
      try clear hcz36_0
      try clear hcz36_1
      try clear hcz37_0
      try clear hcz37_1
      try clear hcz44_0
      try clear hcz44_1
      try clear hcz52_0
      try clear hcz52_1
      try clear hcz56_0
      try clear hcz56_1
      try clear hcz9_0
      try clear hcz9_1
      try clear hfz19_0
      try clear hfz19_1
      try clear hfz21_0
      try clear hfz21_1
      try clear hfz26_0
      try clear hfz26_1
      try clear hfz28_0
      try clear hfz28_1
      try clear hfz34_0
      try clear hfz34_1
      try clear hfz36_0
      try clear hfz36_1
      try clear hfz37_0
      try clear hfz37_1
      try clear hfz44_0
      try clear hfz44_1
      try clear hfz52_0
      try clear hfz52_1
      try clear hfz56_0
      try clear hfz56_1
      try clear hfz9_0
      try clear hfz9_1
      obtain ⟨kq, x10_14, rfl, HA, HJ14, HO_275001, HO_281001, HO_287001, BK266, BK267, BK274, BK280, BK286, HB, HXT, HXA⟩ := hcut
      cases kq with
      | zero => exact absurd HA.out (by simp [familychecklaw01_LinearSubstitutes.j0])
      | succ kj14 =>
        have H := HA.out
        clear HA
        simp only [familychecklaw01_LinearSubstitutes.j0] at H
        have H' := Aside0.mk H
        clear H
        go_wp2
        go_loopg [11] kj14 (fun kq v11 w' => ∃ (x11_2 : Int), v11 = .int .i64 x11_2 ∧ Aside0 (familychecklaw01_LinearSubstitutes.l0 kq x10_14 x11_2 a0_0 l0_1 t270 t271 t275 t276 = some r) ∧ Aside0 (kq ≤ kj14) ∧ Aside0 (Kd.S k33 33 w' w.heap.size (fun k_ => some k_ ≠ ((.slice Ao35 t276.length co35) : Value).ownBlock ∧ some k_ ≠ ((.slice Ao45 t282.length co45) : Value).ownBlock) (.slice Ao27 t271.length co27) t271) ∧ Aside0 (∃ tq : List S33, tq.length = t276.length ∧ Kd.S k33 33 w' wA.heap.size (fun _ => True) (.slice Ao35 t276.length co35) tq) ∧ Aside0 True ∧ Aside0 (w'.heap[gb266]? = some (.cells #[.int .i64 a0_0, (.slice A0_1 l0_1.length c0_1)] 24 (0, 0))) ∧ Aside0 (w'.heap[gb267]? = some (.cells #[.int .i64 a1_0, .int .i64 a1_1] 55 (0, 0))) ∧ Aside0 (w'.heap[gb274]? = some (.cells #[.int .i64 t270, (.slice Ao27 t271.length co27)] 24 (0, 0))) ∧ Aside0 (w'.heap[gb280]? = some (.cells #[.int .i64 t275, (.slice Ao35 t276.length co35)] 24 (0, 0))) ∧ Aside0 (w'.heap[gb286]? = some (.cells #[.int .i64 t281, (.slice Ao45 t282.length co45)] 24 (0, 0))) ∧ Aside0 (Below w.heap.size w w') ∧ Aside0 (Below wA.heap.size wA w'))
        case atStart => exact ⟨(0), (by first | rfl | (simp; done) | (simp [*]; done)), H', ⟨Nat.le_refl _⟩, ⟨by (with_reducible repeat (first | apply Kd.S_alloc | apply Kd.S_drewN | apply Kd.S_drew)); exact HO_275001.out⟩, ⟨t276, rfl, by (with_reducible repeat (first | apply Kd.S_alloc | apply Kd.S_drewN | apply Kd.S_drew)); exact HXT.out⟩, ⟨trivial⟩, ⟨by (with_reducible repeat (first | refine blk_drewN ?_ _ | refine blk_drew ?_ | refine blk_alloc ?_ _)); exact BK266.out⟩, ⟨by (with_reducible repeat (first | refine blk_drewN ?_ _ | refine blk_drew ?_ | refine blk_alloc ?_ _)); exact BK267.out⟩, ⟨by (with_reducible repeat (first | refine blk_drewN ?_ _ | refine blk_drew ?_ | refine blk_alloc ?_ _)); exact BK274.out⟩, ⟨by (with_reducible repeat (first | refine blk_drewN ?_ _ | refine blk_drew ?_ | refine blk_alloc ?_ _)); exact BK280.out⟩, ⟨by (with_reducible repeat (first | refine blk_drewN ?_ _ | refine blk_drew ?_ | refine blk_alloc ?_ _)); exact BK286.out⟩, ⟨by repeat (first | (with_reducible first | exact HB.out | apply below_alloc | apply pw_below_drewN | apply below_drew1 | refine below_set ?_ GE266.out | refine below_set ?_ GE267.out | refine below_set ?_ GE274.out | refine below_set ?_ GE280.out | refine below_set ?_ GE286.out) | exact HB.out)⟩, ⟨by repeat (first | (with_reducible first | exact HXA.out | apply below_alloc | apply pw_below_drewN | apply below_drew1) | exact HXA.out)⟩⟩
        case round =>
          clear H'
          try clear c1
          try clear c2
          try clear p2
          try clear c3
          try clear c4
          try clear c5
          try clear c8
          try clear c12
          try clear c15
          try clear c16
          try clear c17
          try clear c18
          try clear c24
          try clear c25
          try clear c31
          try clear c32
          try clear c33
          try clear c40
          try clear c41
          try clear c42
          try clear c43
          try clear c44
          try clear c46
          try clear c46b0
          try clear c46b1
          try clear c48
          try clear c49
          try clear c50
          try clear c51
          try clear c53
          try clear c54
          try clear c55
          try clear hcz19_0
          try clear hcz19_1
          try clear hcz21_0
          try clear hcz21_1
          try clear hcz26_0
          try clear hcz26_1
          try clear hcz28_0
          try clear hcz28_1
          try clear hcz34_0
          try clear hcz34_1
          try clear hcz36_0
          try clear hcz36_1
          try clear hcz37_0
          try clear hcz37_1
          try clear hcz44_0
          try clear hcz44_1
          try clear hcz52_0
          try clear hcz52_1
          try clear hcz56_0
          try clear hcz56_1
          try clear hcz9_0
          try clear hcz9_1
          try clear hfz19_0
          try clear hfz19_1
          try clear hfz21_0
          try clear hfz21_1
          try clear hfz26_0
          try clear hfz26_1
          try clear hfz28_0
          try clear hfz28_1
          try clear hfz34_0
          try clear hfz34_1
          try clear hfz36_0
          try clear hfz36_1
          try clear hfz37_0
          try clear hfz37_1
          try clear hfz44_0
          try clear hfz44_1
          try clear hfz52_0
          try clear hfz52_1
          try clear hfz56_0
          try clear hfz56_1
          try clear hfz9_0
          try clear hfz9_1
          try clear p2
          obtain ⟨x11_2, rfl, HA, HK2, HO_275001, HO_281001, HO_287001, BK266, BK267, BK274, BK280, BK286, HB, HXA⟩ := hrel
          cases gk with
          | zero => exact absurd HA.out (by simp [familychecklaw01_LinearSubstitutes.l0])
          | succ k2 =>
            have H := HA.out
            clear HA
            simp only [familychecklaw01_LinearSubstitutes.l0] at H
            by_cases c58 : x11_2 < (t276.length : Int)
            · rw [if_pos c58] at H
              have c58b0 : decide (x11_2 < (t276.length : Int)) = true := decide_eq_true c58
              clear c58
              by_cases c59 : 0 ≤ x11_2
              · rw [if_pos c59] at H
                have c59b0 : decide (0 ≤ x11_2) = true := decide_eq_true c59
                clear c59
                replace H := Option.bind_eq_some_iff.mp H
                obtain ⟨_, A600, H⟩ := H
                replace H : (familychecklaw01_LinearSubstitutes.l0 k2 x10_14 (wrap64 (x11_2 + 1)) a0_0 l0_1 t270 t271 t275 t276) = some r := H
                have A60 := Aside0.mk A600
                clear A600
                have H' := Aside0.mk H
                clear H
                have hnb61 := NB280_266.out
                have hnc61 := NB266_280.out
                have hnb62 := NB280_267.out
                have hnc62 := NB267_280.out
                have hnb63 := NB280_274.out
                have hnc63 := NB274_280.out
                have hnb64 := NB280_286.out
                have hnc64 := NB286_280.out
                have hcz65_0 : wr.cell? ⟨gb280, 0, none⟩ = some (.int .i64 t275) := (blk_cell BK280.out 0).trans rfl
                have hcz65_1 : wr.cell? ⟨gb280, 1, none⟩ = some (.slice Ao35 t276.length co35) := (blk_cell BK280.out 1).trans rfl
                have hfz65_0 := blk_frozen BK280.out 0
                have hfz65_1 := blk_frozen BK280.out 1
                have p288 : 0 ≤ (x11_2 : Int) := of_decide_eq_true (by first | (with_reducible assumption) | assumption)
                have q288 : x11_2 < (t276.length : Int) := of_decide_eq_true (by first | (with_reducible assumption) | assumption)
                obtain ⟨tq, hxlen, hxS⟩ := HO_281001.out
                have q288' : x11_2 < (tq.length : Int) := by rw [hxlen]; exact q288
                obtain ⟨ad288, A288_0, c288_0, e288, hx288_0, hx288_1, hl288_0, hi288_0⟩ := at_T33 (Kd.S_reads' (n := t276.length) (c := co35) (show Kd.S k33 33 wr wA.heap.size (fun _ => True) (.slice Ao35 t276.length co35) tq from hxS)).2.2 x11_2 p288 q288'
                cases e288
                have HXS := Aside0.mk hxS
                have HX0 := Aside0.mk hx288_0
                have HXP := Aside0.mk p288
                have HXQ := Aside0.mk q288
                clear hxS hl288_0 hi288_0
                have HXL := Aside0.mk hxlen
                clear hxlen q288'
                replace p288 := eq_true p288
                replace q288 := eq_true q288
                go_wp2_with fail
                refine (spoil_row wA _ _ _ _ tq x11_2 A288_0 c288_0 (by repeat (first | (with_reducible first | exact HXA.out | apply below_alloc | apply pw_below_drewN | apply below_drew1) | exact HXA.out)) (by (with_reducible repeat (first | apply Kd.S_alloc | apply Kd.S_drewN | apply Kd.S_drew)); exact HXS.out) HXP.out HXQ.out ?hcl).mono ?_
                (case hcl => first | exact HX0.out | (go_simp; done))
                rintro e wz ⟨rfl, hz1, ⟨tz, hz2, hz3⟩, hz4⟩
                have n0_ := Aside0.mk hz1
                have n1_ : Aside0 (∃ tq : List S33, tq.length = t276.length ∧ Kd.S k33 33 wz wA.heap.size (fun _ => True) (.slice (some ad288) t276.length co35) tq) := ⟨tz, hz2.trans HXL.out, hz3⟩
                have n2_ : Aside0 (Kd.S k33 33 wz w.heap.size (fun k_ => some k_ ≠ ((.slice (some ad288) t276.length co35) : Value).ownBlock ∧ some k_ ≠ ((.slice Ao45 t282.length co45) : Value).ownBlock) (.slice Ao27 t271.length co27) t271) := ⟨Kd.S_mono (Kd.S_below (Kd.S_bound WO.out) (show Below wA.heap.size wA wz from n0_.out)) (fun k_ hk_ => ⟨fun he_ => absurd (Kd.S_base HXS.out _ he_.symm) (Nat.not_le.2 hk_.2.2.1), fun he_ => absurd (HXU.out _ he_.symm) (Nat.not_le.2 hk_.2.2.1)⟩)⟩
                have n4_ := Aside0.mk (blk_below Wgb266.out (show Below wA.heap.size wA wz from n0_.out))
                have n5_ := Aside0.mk (blk_below Wgb267.out (show Below wA.heap.size wA wz from n0_.out))
                have n6_ := Aside0.mk (blk_below Wgb274.out (show Below wA.heap.size wA wz from n0_.out))
                have n7_ := Aside0.mk (hz4 gb280 _ (by (with_reducible repeat (first | refine blk_drewN ?_ _ | refine blk_drew ?_ | refine blk_alloc ?_ _)); exact BK280.out))
                have n8_ := Aside0.mk (hz4 gb286 _ (by (with_reducible repeat (first | refine blk_drewN ?_ _ | refine blk_drew ?_ | refine blk_alloc ?_ _)); exact BK286.out))
                have n9_ := Aside0.mk (WB.out.trans ((show Below wA.heap.size wA wz from n0_.out).mono (WB.out.size)))
                clear HXA HO_281001 HO_275001  BK266 BK267 BK274 BK280 BK286 HB
                have HXA := n0_
                have HO_281001 := n1_
                have HO_275001 := n2_
                have BK266 := n4_
                have BK267 := n5_
                have BK274 := n6_
                have BK280 := n7_
                have BK286 := n8_
                have HB := n9_
                clear n0_ n1_ n2_  n4_ n5_ n6_ n7_ n8_ n9_
                clear hz1 hz2 hz3 hz4
                go_wp2
                go_roundg k2
                case measure => have := HJ14.out; have := HK2.out; omega
                case rel => exact ⟨(wrap64 (x11_2 + 1)), (by first | rfl | (simp; done) | (simp [*]; done)), H', ⟨by have := HJ14.out; have := HK2.out; omega⟩, ⟨by (with_reducible repeat (first | apply Kd.S_alloc | apply Kd.S_drewN | apply Kd.S_drew)); exact HO_275001.out⟩, ⟨by obtain ⟨ty, hy1, hy2⟩ := HO_281001.out; exact ⟨ty, hy1, by (with_reducible repeat (first | apply Kd.S_alloc | apply Kd.S_drewN | apply Kd.S_drew)); exact hy2⟩⟩, ⟨trivial⟩, ⟨by (with_reducible repeat (first | refine blk_drewN ?_ _ | refine blk_drew ?_ | refine blk_alloc ?_ _)); exact BK266.out⟩, ⟨by (with_reducible repeat (first | refine blk_drewN ?_ _ | refine blk_drew ?_ | refine blk_alloc ?_ _)); exact BK267.out⟩, ⟨by (with_reducible repeat (first | refine blk_drewN ?_ _ | refine blk_drew ?_ | refine blk_alloc ?_ _)); exact BK274.out⟩, ⟨by (with_reducible repeat (first | refine blk_drewN ?_ _ | refine blk_drew ?_ | refine blk_alloc ?_ _)); exact BK280.out⟩, ⟨by (with_reducible repeat (first | refine blk_drewN ?_ _ | refine blk_drew ?_ | refine blk_alloc ?_ _)); exact BK286.out⟩, ⟨by repeat (first | (with_reducible first | exact HB.out | apply below_alloc | apply pw_below_drewN | apply below_drew1 | refine below_set ?_ GE266.out | refine below_set ?_ GE267.out | refine below_set ?_ GE274.out | refine below_set ?_ GE280.out | refine below_set ?_ GE286.out) | exact HB.out)⟩, ⟨by repeat (first | (with_reducible first | exact HXA.out | apply below_alloc | apply pw_below_drewN | apply below_drew1) | exact HXA.out)⟩⟩
              · rw [if_neg c59] at H
                exact absurd H (by simp)
            · rw [if_neg c58] at H
              have c58b0 : decide (x11_2 < (t276.length : Int)) = false := decide_eq_false c58
              clear c58
              by_cases c67 : x10_14 = true
              · subst c67
                have H1 : ((familycheckref01_SameSystem.f k2 t270 t271 a0_0 l0_1).bind fun t289 => (if t289 = true then ((familychecklaw01_known.f k2).bind fun t290 => (some t290)) else (some false))) = some r := by rw [if_pos rfl] at H; exact H
                clear H
                have H := H1
                clear H1
                replace H := Option.bind_eq_some_iff.mp H
                obtain ⟨t289, A680, H⟩ := H
                replace H : (if t289 = true then ((familychecklaw01_known.f k2).bind fun t290 => (some t290)) else (some false)) = some r := H
                have A68 := Aside0.mk A680
                clear A680
                by_cases c69 : t289 = true
                · subst c69
                  have H1 : ((familychecklaw01_known.f k2).bind fun t290 => (some t290)) = some r := by rw [if_pos rfl] at H; exact H
                  clear H
                  have H := H1
                  clear H1
                  replace H := Option.bind_eq_some_iff.mp H
                  obtain ⟨t290, A700, H⟩ := H
                  replace H : (some t290) = some r := H
                  have A70 := Aside0.mk A700
                  clear A700
                  obtain rfl := Option.some.inj H
                  have hnb71 := NB280_266.out
                  have hnc71 := NB266_280.out
                  have hnb72 := NB280_267.out
                  have hnc72 := NB267_280.out
                  have hnb73 := NB280_274.out
                  have hnc73 := NB274_280.out
                  have hnb74 := NB280_286.out
                  have hnc74 := NB286_280.out
                  have hcz75_0 : wr.cell? ⟨gb280, 0, none⟩ = some (.int .i64 t275) := (blk_cell BK280.out 0).trans rfl
                  have hcz75_1 : wr.cell? ⟨gb280, 1, none⟩ = some (.slice Ao35 t276.length co35) := (blk_cell BK280.out 1).trans rfl
                  have hfz75_0 := blk_frozen BK280.out 0
                  have hfz75_1 := blk_frozen BK280.out 1
                  have hnb76 := NB274_266.out
                  have hnc76 := NB266_274.out
                  have hnb77 := NB274_267.out
                  have hnc77 := NB267_274.out
                  have hnb78 := NB274_286.out
                  have hnc78 := NB286_274.out
                  have hcz79_0 : wr.cell? ⟨gb274, 0, none⟩ = some (.int .i64 t270) := (blk_cell BK274.out 0).trans rfl
                  have hcz79_1 : wr.cell? ⟨gb274, 1, none⟩ = some (.slice Ao27 t271.length co27) := (blk_cell BK274.out 1).trans rfl
                  have hfz79_0 := blk_frozen BK274.out 0
                  have hfz79_1 := blk_frozen BK274.out 1
                  have hnb80 := NB266_267.out
                  have hnc80 := NB267_266.out
                  have hnb81 := NB266_286.out
                  have hnc81 := NB286_266.out
                  have hcz82_0 : wr.cell? ⟨gb266, 0, none⟩ = some (.int .i64 a0_0) := (blk_cell BK266.out 0).trans rfl
                  have hcz82_1 : wr.cell? ⟨gb266, 1, none⟩ = some (.slice A0_1 l0_1.length c0_1) := (blk_cell BK266.out 1).trans rfl
                  have hfz82_0 := blk_frozen BK266.out 0
                  have hfz82_1 := blk_frozen BK266.out 1
                  go_wp2_with (first | (go_at_call 20; (with_reducible refine (familycheckref01_SameSystem.calls k2 t270 _ _ t271 a0_0 _ _ l0_1 true _ ?side1 ?side2 ?side3 ?side4 A68.out).mono ?_); (case side1 => repeat (first | exact (Kd.S_reads' HO_275001.out).2.2 | (with_reducible refine Kd.C_alloc ?_ _) | (with_reducible refine Kd.C_drewN ?_ _) | (with_reducible refine Kd.C_drew ?_))); (case side2 => exact (Kd.S_reads' HO_275001.out).2.1); (case side3 => repeat (first | exact (Kd.C_below HR0_1.out HB.out) | (with_reducible refine Kd.C_alloc ?_ _) | (with_reducible refine Kd.C_drewN ?_ _) | (with_reducible refine Kd.C_drew ?_))); (case side4 => exact HC0_1.out); rintro e w83 ⟨rfl, hb⟩; have n0_ := Aside0.mk (Kd.S_below (by (with_reducible repeat (first | apply Kd.S_alloc | apply Kd.S_drewN | apply Kd.S_drew)); exact HO_275001.out) hb); have n1_ := Aside0.mk True.intro; have n2_ := Aside0.mk True.intro; have n3_ := Aside0.mk (blk_below (g := gb266) (o := .cells #[.int .i64 a0_0, .slice A0_1 l0_1.length c0_1] 24 (0, 0)) (by (with_reducible repeat (first | refine blk_drewN ?_ _ | refine blk_drew ?_ | refine blk_alloc ?_ _)); exact BK266.out) hb); have n4_ := Aside0.mk (blk_below (g := gb267) (o := .cells #[.int .i64 a1_0, .int .i64 a1_1] 55 (0, 0)) (by (with_reducible repeat (first | refine blk_drewN ?_ _ | refine blk_drew ?_ | refine blk_alloc ?_ _)); exact BK267.out) hb); have n5_ := Aside0.mk (blk_below (g := gb274) (o := .cells #[.int .i64 t270, .slice Ao27 t271.length co27] 24 (0, 0)) (by (with_reducible repeat (first | refine blk_drewN ?_ _ | refine blk_drew ?_ | refine blk_alloc ?_ _)); exact BK274.out) hb); have n6_ := Aside0.mk (blk_below (g := gb280) (o := .cells #[.int .i64 t275, .slice Ao35 t276.length co35] 24 (0, 0)) (by (with_reducible repeat (first | refine blk_drewN ?_ _ | refine blk_drew ?_ | refine blk_alloc ?_ _)); exact BK280.out) hb); have n7_ := Aside0.mk (blk_below (g := gb286) (o := .cells #[.int .i64 t281, .slice Ao45 t282.length co45] 24 (0, 0)) (by (with_reducible repeat (first | refine blk_drewN ?_ _ | refine blk_drew ?_ | refine blk_alloc ?_ _)); exact BK286.out) hb); have n8_ := Aside0.mk (below_step (by repeat (first | (with_reducible first | exact HB.out | apply below_alloc | apply pw_below_drewN | apply below_drew1 | refine below_set ?_ GE266.out | refine below_set ?_ GE267.out | refine below_set ?_ GE274.out | refine below_set ?_ GE280.out | refine below_set ?_ GE286.out) | exact HB.out)) hb); clear HO_275001; clear HO_281001; clear HO_287001; clear BK266; clear BK267; clear BK274; clear BK280; clear BK286; clear HB; have HO_275001 := n0_; have HO_281001 := n1_; have HO_287001 := n2_; have BK266 := n3_; have BK267 := n4_; have BK274 := n5_; have BK280 := n6_; have BK286 := n7_; have HB := n8_; clear n0_ n1_ n2_ n3_ n4_ n5_ n6_ n7_ n8_; (try clear hb); (try clear hb2); (try clear hk); (try clear hi)) | (go_at_call 16; (with_reducible refine (familychecklaw01_known.calls k2  t290 _ A70.out).mono ?_); rintro e w84 ⟨rfl, hb⟩; have n0_ := Aside0.mk (Kd.S_below (by (with_reducible repeat (first | apply Kd.S_alloc | apply Kd.S_drewN | apply Kd.S_drew)); exact HO_275001.out) hb); have n1_ := Aside0.mk True.intro; have n2_ := Aside0.mk True.intro; have n3_ := Aside0.mk (blk_below (g := gb266) (o := .cells #[.int .i64 a0_0, .slice A0_1 l0_1.length c0_1] 24 (0, 0)) (by (with_reducible repeat (first | refine blk_drewN ?_ _ | refine blk_drew ?_ | refine blk_alloc ?_ _)); exact BK266.out) hb); have n4_ := Aside0.mk (blk_below (g := gb267) (o := .cells #[.int .i64 a1_0, .int .i64 a1_1] 55 (0, 0)) (by (with_reducible repeat (first | refine blk_drewN ?_ _ | refine blk_drew ?_ | refine blk_alloc ?_ _)); exact BK267.out) hb); have n5_ := Aside0.mk (blk_below (g := gb274) (o := .cells #[.int .i64 t270, .slice Ao27 t271.length co27] 24 (0, 0)) (by (with_reducible repeat (first | refine blk_drewN ?_ _ | refine blk_drew ?_ | refine blk_alloc ?_ _)); exact BK274.out) hb); have n6_ := Aside0.mk (blk_below (g := gb280) (o := .cells #[.int .i64 t275, .slice Ao35 t276.length co35] 24 (0, 0)) (by (with_reducible repeat (first | refine blk_drewN ?_ _ | refine blk_drew ?_ | refine blk_alloc ?_ _)); exact BK280.out) hb); have n7_ := Aside0.mk (blk_below (g := gb286) (o := .cells #[.int .i64 t281, .slice Ao45 t282.length co45] 24 (0, 0)) (by (with_reducible repeat (first | refine blk_drewN ?_ _ | refine blk_drew ?_ | refine blk_alloc ?_ _)); exact BK286.out) hb); have n8_ := Aside0.mk (below_step (by repeat (first | (with_reducible first | exact HB.out | apply below_alloc | apply pw_below_drewN | apply below_drew1 | refine below_set ?_ GE266.out | refine below_set ?_ GE267.out | refine below_set ?_ GE274.out | refine below_set ?_ GE280.out | refine below_set ?_ GE286.out) | exact HB.out)) hb); clear HO_275001; clear HO_281001; clear HO_287001; clear BK266; clear BK267; clear BK274; clear BK280; clear BK286; clear HB; have HO_275001 := n0_; have HO_281001 := n1_; have HO_287001 := n2_; have BK266 := n3_; have BK267 := n4_; have BK274 := n5_; have BK280 := n6_; have BK286 := n7_; have HB := n8_; clear n0_ n1_ n2_ n3_ n4_ n5_ n6_ n7_ n8_; (try clear hb); (try clear hb2); (try clear hk); (try clear hi)))
                  go_ret
                  exact ⟨by first | rfl | (simp [errW_none, errW_some] <;> rfl) | (simp [*, errW_none, errW_some] <;> rfl), by repeat (first | (with_reducible first | exact HB.out | apply below_alloc | apply pw_below_drewN | apply below_drew1 | refine below_set ?_ GE266.out | refine below_set ?_ GE267.out | refine below_set ?_ GE274.out | refine below_set ?_ GE280.out | refine below_set ?_ GE286.out) | exact HB.out)⟩
                · replace c69 := Bool.eq_false_iff.mpr c69
                  subst c69
                  have H1 : (some false) = some r := by rw [if_neg (show ¬ (false = true) by decide)] at H; exact H
                  clear H
                  have H := H1
                  clear H1
                  obtain rfl := Option.some.inj H
                  have hnb85 := NB280_266.out
                  have hnc85 := NB266_280.out
                  have hnb86 := NB280_267.out
                  have hnc86 := NB267_280.out
                  have hnb87 := NB280_274.out
                  have hnc87 := NB274_280.out
                  have hnb88 := NB280_286.out
                  have hnc88 := NB286_280.out
                  have hcz89_0 : wr.cell? ⟨gb280, 0, none⟩ = some (.int .i64 t275) := (blk_cell BK280.out 0).trans rfl
                  have hcz89_1 : wr.cell? ⟨gb280, 1, none⟩ = some (.slice Ao35 t276.length co35) := (blk_cell BK280.out 1).trans rfl
                  have hfz89_0 := blk_frozen BK280.out 0
                  have hfz89_1 := blk_frozen BK280.out 1
                  have hnb90 := NB274_266.out
                  have hnc90 := NB266_274.out
                  have hnb91 := NB274_267.out
                  have hnc91 := NB267_274.out
                  have hnb92 := NB274_286.out
                  have hnc92 := NB286_274.out
                  have hcz93_0 : wr.cell? ⟨gb274, 0, none⟩ = some (.int .i64 t270) := (blk_cell BK274.out 0).trans rfl
                  have hcz93_1 : wr.cell? ⟨gb274, 1, none⟩ = some (.slice Ao27 t271.length co27) := (blk_cell BK274.out 1).trans rfl
                  have hfz93_0 := blk_frozen BK274.out 0
                  have hfz93_1 := blk_frozen BK274.out 1
                  have hnb94 := NB266_267.out
                  have hnc94 := NB267_266.out
                  have hnb95 := NB266_286.out
                  have hnc95 := NB286_266.out
                  have hcz96_0 : wr.cell? ⟨gb266, 0, none⟩ = some (.int .i64 a0_0) := (blk_cell BK266.out 0).trans rfl
                  have hcz96_1 : wr.cell? ⟨gb266, 1, none⟩ = some (.slice A0_1 l0_1.length c0_1) := (blk_cell BK266.out 1).trans rfl
                  have hfz96_0 := blk_frozen BK266.out 0
                  have hfz96_1 := blk_frozen BK266.out 1
                  go_wp2_with (first | (go_at_call 20; (with_reducible refine (familycheckref01_SameSystem.calls k2 t270 _ _ t271 a0_0 _ _ l0_1 false _ ?side1 ?side2 ?side3 ?side4 A68.out).mono ?_); (case side1 => repeat (first | exact (Kd.S_reads' HO_275001.out).2.2 | (with_reducible refine Kd.C_alloc ?_ _) | (with_reducible refine Kd.C_drewN ?_ _) | (with_reducible refine Kd.C_drew ?_))); (case side2 => exact (Kd.S_reads' HO_275001.out).2.1); (case side3 => repeat (first | exact (Kd.C_below HR0_1.out HB.out) | (with_reducible refine Kd.C_alloc ?_ _) | (with_reducible refine Kd.C_drewN ?_ _) | (with_reducible refine Kd.C_drew ?_))); (case side4 => exact HC0_1.out); rintro e w97 ⟨rfl, hb⟩; have n0_ := Aside0.mk (Kd.S_below (by (with_reducible repeat (first | apply Kd.S_alloc | apply Kd.S_drewN | apply Kd.S_drew)); exact HO_275001.out) hb); have n1_ := Aside0.mk True.intro; have n2_ := Aside0.mk True.intro; have n3_ := Aside0.mk (blk_below (g := gb266) (o := .cells #[.int .i64 a0_0, .slice A0_1 l0_1.length c0_1] 24 (0, 0)) (by (with_reducible repeat (first | refine blk_drewN ?_ _ | refine blk_drew ?_ | refine blk_alloc ?_ _)); exact BK266.out) hb); have n4_ := Aside0.mk (blk_below (g := gb267) (o := .cells #[.int .i64 a1_0, .int .i64 a1_1] 55 (0, 0)) (by (with_reducible repeat (first | refine blk_drewN ?_ _ | refine blk_drew ?_ | refine blk_alloc ?_ _)); exact BK267.out) hb); have n5_ := Aside0.mk (blk_below (g := gb274) (o := .cells #[.int .i64 t270, .slice Ao27 t271.length co27] 24 (0, 0)) (by (with_reducible repeat (first | refine blk_drewN ?_ _ | refine blk_drew ?_ | refine blk_alloc ?_ _)); exact BK274.out) hb); have n6_ := Aside0.mk (blk_below (g := gb280) (o := .cells #[.int .i64 t275, .slice Ao35 t276.length co35] 24 (0, 0)) (by (with_reducible repeat (first | refine blk_drewN ?_ _ | refine blk_drew ?_ | refine blk_alloc ?_ _)); exact BK280.out) hb); have n7_ := Aside0.mk (blk_below (g := gb286) (o := .cells #[.int .i64 t281, .slice Ao45 t282.length co45] 24 (0, 0)) (by (with_reducible repeat (first | refine blk_drewN ?_ _ | refine blk_drew ?_ | refine blk_alloc ?_ _)); exact BK286.out) hb); have n8_ := Aside0.mk (below_step (by repeat (first | (with_reducible first | exact HB.out | apply below_alloc | apply pw_below_drewN | apply below_drew1 | refine below_set ?_ GE266.out | refine below_set ?_ GE267.out | refine below_set ?_ GE274.out | refine below_set ?_ GE280.out | refine below_set ?_ GE286.out) | exact HB.out)) hb); clear HO_275001; clear HO_281001; clear HO_287001; clear BK266; clear BK267; clear BK274; clear BK280; clear BK286; clear HB; have HO_275001 := n0_; have HO_281001 := n1_; have HO_287001 := n2_; have BK266 := n3_; have BK267 := n4_; have BK274 := n5_; have BK280 := n6_; have BK286 := n7_; have HB := n8_; clear n0_ n1_ n2_ n3_ n4_ n5_ n6_ n7_ n8_; (try clear hb); (try clear hb2); (try clear hk); (try clear hi)))
                  go_ret
                  exact ⟨by first | rfl | (simp [errW_none, errW_some] <;> rfl) | (simp [*, errW_none, errW_some] <;> rfl), by repeat (first | (with_reducible first | exact HB.out | apply below_alloc | apply pw_below_drewN | apply below_drew1 | refine below_set ?_ GE266.out | refine below_set ?_ GE267.out | refine below_set ?_ GE274.out | refine below_set ?_ GE280.out | refine below_set ?_ GE286.out) | exact HB.out)⟩
              · replace c67 := Bool.eq_false_iff.mpr c67
                subst c67
                have H1 : (some false) = some r := by rw [if_neg (show ¬ (false = true) by decide)] at H; exact H
                clear H
                have H := H1
                clear H1
                obtain rfl := Option.some.inj H
                have hnb98 := NB280_266.out
                have hnc98 := NB266_280.out
                have hnb99 := NB280_267.out
                have hnc99 := NB267_280.out
                have hnb100 := NB280_274.out
                have hnc100 := NB274_280.out
                have hnb101 := NB280_286.out
                have hnc101 := NB286_280.out
                have hcz102_0 : wr.cell? ⟨gb280, 0, none⟩ = some (.int .i64 t275) := (blk_cell BK280.out 0).trans rfl
                have hcz102_1 : wr.cell? ⟨gb280, 1, none⟩ = some (.slice Ao35 t276.length co35) := (blk_cell BK280.out 1).trans rfl
                have hfz102_0 := blk_frozen BK280.out 0
                have hfz102_1 := blk_frozen BK280.out 1
                go_wp2
                go_ret
                exact ⟨by first | rfl | (simp [errW_none, errW_some] <;> rfl) | (simp [*, errW_none, errW_some] <;> rfl), by repeat (first | (with_reducible first | exact HB.out | apply below_alloc | apply pw_below_drewN | apply below_drew1 | refine below_set ?_ GE266.out | refine below_set ?_ GE267.out | refine below_set ?_ GE274.out | refine below_set ?_ GE280.out | refine below_set ?_ GE286.out) | exact HB.out)⟩

end Go.Proofs.YtbioiodjdfcooaaDoor.P
