import Derived.Test.YtbioiodjdfcooaaDoorVAPx0
import Derived.Test.YtbioiodjdfcooaaDoorVAPx1
import Derived.Test.YtbioiodjdfcooaaDoorVAPx5
import Derived.Test.YtbioiodjdfcooaaDoorVAPx7
import Derived.Test.YtbioiodjdfcooaaDoorVAPx10
import Derived.Test.YtbioiodjdfcooaaDoorVAPx17
import Derived.Test.YtbioiodjdfcooaaDoorVAPx18
-- Written by a program of this session (wip/tools/doprint.sh: the kit's print, with given texts for some functions).
namespace Go.Proofs.YtbioiodjdfcooaaDoor.P
open Go.RowKit Go.Proofs.YtbioiodjdfcooaaDoorW.PrintWords Go.Proofs.YtbioiodjdfcooaaDoorW.PrintLast Go.Proofs.YtbioiodjdfcooaaDoorW.PrintMore
attribute [local go_sem] max2_int min2_int max_two min_two max_three min_three max_four min_four   -- for this text's walks alone
set_option linter.unusedVariables false
set_option linter.unusedSimpArgs false

/-! ### familychecklaw01_LinearTightens: function 5 -/
def familychecklaw01_LinearTightens.f (k : Nat) (l0_0 : List Int) (a0_1 : Int) : Option (Bool) := (familychecklaw01_long.f l0_0 a0_1).bind fun t266 => (if t266 = true then ((familychecklaw01_known.f k).bind fun t267 => (some t267)) else ((familycheckref01_CopyRow.f l0_0 a0_1).bind fun bt268 => ((linear_Tighten.f k bt268.1 bt268.2).bind fun bt273 => ((familycheckref01_Tighten.f k l0_0 a0_1).bind fun bt278 => ((familycheckref01_SameRow.f k bt273.1 bt273.2 bt278.1 bt278.2).bind fun t282 => ((familychecklaw01_spoil.f k bt273.1).bind fun t283 => (if t282 = true then ((familycheckref01_SameRow.f k bt268.1 bt268.2 l0_0 a0_1).bind fun t284 => (if t284 = true then ((familychecklaw01_known.f k).bind fun t285 => (some t285)) else (some false))) else (some false))))))))
set_option maxHeartbeats 8000000 in
set_option maxRecDepth 100000 in
theorem familychecklaw01_LinearTightens.calls (k : Nat) (A0_0 : Option Addr) (c0_0 : Nat) (l0_0 : List Int) (a0_1 : Int) (r : Bool) (w : World) (hr0_0 : Kd.C (Kd.int .i64) w A0_0 l0_0.length l0_0) (hc0_0 : l0_0.length ≤ c0_0) (h : familychecklaw01_LinearTightens.f k l0_0 a0_1 = some r) :
    Calls Tryd.prog 5 #[.agg #[.slice A0_0 l0_0.length c0_0, .int .i64 a0_1]] w fun e w' => e = .returned (.bool r) ∧ Below w.heap.size w w' := by
  have hu33 := Tryd.underlying33
  have HR0_0 := Aside0.mk hr0_0
  have HC0_0 := Aside0.mk hc0_0
  clear hr0_0 hc0_0
  have HB := Aside0.mk (Below.refl w.heap.size w)
  have H : ((familychecklaw01_long.f l0_0 a0_1).bind fun t266 => (if t266 = true then ((familychecklaw01_known.f k).bind fun t267 => (some t267)) else ((familycheckref01_CopyRow.f l0_0 a0_1).bind fun bt268 => ((linear_Tighten.f k bt268.1 bt268.2).bind fun bt273 => ((familycheckref01_Tighten.f k l0_0 a0_1).bind fun bt278 => ((familycheckref01_SameRow.f k bt273.1 bt273.2 bt278.1 bt278.2).bind fun t282 => ((familychecklaw01_spoil.f k bt273.1).bind fun t283 => (if t282 = true then ((familycheckref01_SameRow.f k bt268.1 bt268.2 l0_0 a0_1).bind fun t284 => (if t284 = true then ((familychecklaw01_known.f k).bind fun t285 => (some t285)) else (some false))) else (some false))))))))) = some r := h
  clear h
  replace H := Option.bind_eq_some_iff.mp H
  obtain ⟨t266, A20, H⟩ := H
  replace H : (if t266 = true then ((familychecklaw01_known.f k).bind fun t267 => (some t267)) else ((familycheckref01_CopyRow.f l0_0 a0_1).bind fun bt268 => ((linear_Tighten.f k bt268.1 bt268.2).bind fun bt273 => ((familycheckref01_Tighten.f k l0_0 a0_1).bind fun bt278 => ((familycheckref01_SameRow.f k bt273.1 bt273.2 bt278.1 bt278.2).bind fun t282 => ((familychecklaw01_spoil.f k bt273.1).bind fun t283 => (if t282 = true then ((familycheckref01_SameRow.f k bt268.1 bt268.2 l0_0 a0_1).bind fun t284 => (if t284 = true then ((familychecklaw01_known.f k).bind fun t285 => (some t285)) else (some false))) else (some false)))))))) = some r := H
  have A2 := Aside0.mk A20
  clear A20
  by_cases c3 : t266 = true
  · subst c3
    have H1 : ((familychecklaw01_known.f k).bind fun t267 => (some t267)) = some r := by rw [if_pos rfl] at H; exact H
    clear H
    have H := H1
    clear H1
    replace H := Option.bind_eq_some_iff.mp H
    obtain ⟨t267, A40, H⟩ := H
    replace H : (some t267) = some r := H
    have A4 := Aside0.mk A40
    clear A40
    obtain rfl := Option.some.inj H
    go_enter Tryd.func5, Tryd.ntmps5
    go_wp2_with (first | ((with_reducible refine gate_dst (N := 1) rfl ?_); refine box_event ?hg (N := 1) ?hd (cs := #[.slice A0_0 l0_0.length c0_0, .int .i64 a0_1]) (t := 33) ?hr ?_; (case hd => rfl); (case hg => rfl); (case hr => first | (go_simp; done) | (go_simp; rfl)); intro gb265 hg w5 hbox hb; have n0_ := Aside0.mk (below_step (by repeat (first | (with_reducible first | exact HB.out | apply below_alloc | apply pw_below_drewN | apply below_drew1) | exact HB.out)) hb); have n1_ := Aside0.mk (hbox); have n2_ := Aside0.mk ((by rw [hg]; exact (below_size (by repeat (first | (with_reducible first | exact HB.out | apply below_alloc | apply pw_below_drewN | apply below_drew1) | exact HB.out))) : w.heap.size ≤ gb265)); have n3_ := Aside0.mk ((by rw [hg]; exact (below_size (by repeat (first | (with_reducible first | exact HB.out | apply below_alloc | apply pw_below_drewN | apply below_drew1) | exact HB.out))) : w.heap.size ≤ gb265)); clear HB; have HB := n0_; have BK265 := n1_; have GW265 := n2_; have GE265 := n3_; clear n0_ n1_ n2_ n3_; clear hb hbox hg; have hcz6_0 : w5.cell? ⟨gb265, 0, none⟩ = some (.slice A0_0 l0_0.length c0_0) := (blk_cell BK265.out 0).trans rfl; have hcz6_1 : w5.cell? ⟨gb265, 1, none⟩ = some (.int .i64 a0_1) := (blk_cell BK265.out 1).trans rfl; have hfz6_0 := blk_frozen BK265.out 0; have hfz6_1 := blk_frozen BK265.out 1) | ((with_reducible refine gate_callee (f := 21) rfl ?_); refine goesL_ (some 7) rfl rfl Tryd.func21 (by kernel_rfl) rfl #[.agg #[.slice A0_0 l0_0.length c0_0, .int .i64 a0_1]] rfl (by (try simp only [List.map_toArray, List.map_cons, List.map_nil]); first | done | rfl | (simp only [List.length_drop, List.length_take]; rfl)) ?_; (with_reducible refine (familychecklaw01_long.calls _ _ l0_0 a0_1 true _ ?side1 ?side2 A2.out).mono ?_); (case side1 => repeat (first | exact (Kd.C_below HR0_0.out HB.out) | (with_reducible refine Kd.C_alloc ?_ _) | (with_reducible refine Kd.C_drewN ?_ _) | (with_reducible refine Kd.C_drew ?_))); (case side2 => exact HC0_0.out); rintro e w7 ⟨rfl, hb⟩; refine ⟨_, rfl, ?_⟩; have n0_ := Aside0.mk (blk_below (g := gb265) (o := .cells #[.slice A0_0 l0_0.length c0_0, .int .i64 a0_1] 33 (0, 0)) (by (with_reducible repeat (first | refine blk_drewN ?_ _ | refine blk_drew ?_ | refine blk_alloc ?_ _)); exact BK265.out) hb); have n1_ := Aside0.mk (below_step (by repeat (first | (with_reducible first | exact HB.out | apply below_alloc | apply pw_below_drewN | apply below_drew1 | refine below_set ?_ GE265.out) | exact HB.out)) hb); clear BK265; clear HB; have BK265 := n0_; have HB := n1_; clear n0_ n1_; (try clear hb); (try clear hb2); (try clear hk); (try clear hi)) | ((with_reducible refine gate_callee (f := 16) rfl ?_); refine goesL_ (some 8) rfl rfl Tryd.func16 (by kernel_rfl) rfl #[] rfl (by (try simp only [List.map_toArray, List.map_cons, List.map_nil]); first | done | rfl | (simp only [List.length_drop, List.length_take]; rfl)) ?_; (with_reducible refine (familychecklaw01_known.calls k  t267 _ A4.out).mono ?_); rintro e w8 ⟨rfl, hb⟩; refine ⟨_, rfl, ?_⟩; have n0_ := Aside0.mk (blk_below (g := gb265) (o := .cells #[.slice A0_0 l0_0.length c0_0, .int .i64 a0_1] 33 (0, 0)) (by (with_reducible repeat (first | refine blk_drewN ?_ _ | refine blk_drew ?_ | refine blk_alloc ?_ _)); exact BK265.out) hb); have n1_ := Aside0.mk (below_step (by repeat (first | (with_reducible first | exact HB.out | apply below_alloc | apply pw_below_drewN | apply below_drew1 | refine below_set ?_ GE265.out) | exact HB.out)) hb); clear BK265; clear HB; have BK265 := n0_; have HB := n1_; clear n0_ n1_; (try clear hb); (try clear hb2); (try clear hk); (try clear hi)))
    go_ret
    exact ⟨by first | rfl | (simp [errW_none, errW_some] <;> rfl) | (simp [*, errW_none, errW_some] <;> rfl), by repeat (first | (with_reducible first | exact HB.out | apply below_alloc | apply pw_below_drewN | apply below_drew1 | refine below_set ?_ GE265.out) | exact HB.out)⟩
  · replace c3 := Bool.eq_false_iff.mpr c3
    subst c3
    have H1 : ((familycheckref01_CopyRow.f l0_0 a0_1).bind fun bt268 => ((linear_Tighten.f k bt268.1 bt268.2).bind fun bt273 => ((familycheckref01_Tighten.f k l0_0 a0_1).bind fun bt278 => ((familycheckref01_SameRow.f k bt273.1 bt273.2 bt278.1 bt278.2).bind fun t282 => ((familychecklaw01_spoil.f k bt273.1).bind fun t283 => (if t282 = true then ((familycheckref01_SameRow.f k bt268.1 bt268.2 l0_0 a0_1).bind fun t284 => (if t284 = true then ((familychecklaw01_known.f k).bind fun t285 => (some t285)) else (some false))) else (some false))))))) = some r := by rw [if_neg (show ¬ (false = true) by decide)] at H; exact H
    clear H
    have H := H1
    clear H1
    replace H := Option.bind_eq_some_iff.mp H
    obtain ⟨⟨t268, t271⟩, A90, H⟩ := H
    replace H : ((linear_Tighten.f k t268 t271).bind fun bt273 => ((familycheckref01_Tighten.f k l0_0 a0_1).bind fun bt278 => ((familycheckref01_SameRow.f k bt273.1 bt273.2 bt278.1 bt278.2).bind fun t282 => ((familychecklaw01_spoil.f k bt273.1).bind fun t283 => (if t282 = true then ((familycheckref01_SameRow.f k t268 t271 l0_0 a0_1).bind fun t284 => (if t284 = true then ((familychecklaw01_known.f k).bind fun t285 => (some t285)) else (some false))) else (some false)))))) = some r := H
    have A9 := Aside0.mk A90
    clear A90
    replace H := Option.bind_eq_some_iff.mp H
    obtain ⟨⟨t273, t276⟩, A100, H⟩ := H
    replace H : ((familycheckref01_Tighten.f k l0_0 a0_1).bind fun bt278 => ((familycheckref01_SameRow.f k t273 t276 bt278.1 bt278.2).bind fun t282 => ((familychecklaw01_spoil.f k t273).bind fun t283 => (if t282 = true then ((familycheckref01_SameRow.f k t268 t271 l0_0 a0_1).bind fun t284 => (if t284 = true then ((familychecklaw01_known.f k).bind fun t285 => (some t285)) else (some false))) else (some false))))) = some r := H
    have A10 := Aside0.mk A100
    clear A100
    replace H := Option.bind_eq_some_iff.mp H
    obtain ⟨⟨t278, t281⟩, A110, H⟩ := H
    replace H : ((familycheckref01_SameRow.f k t273 t276 t278 t281).bind fun t282 => ((familychecklaw01_spoil.f k t273).bind fun t283 => (if t282 = true then ((familycheckref01_SameRow.f k t268 t271 l0_0 a0_1).bind fun t284 => (if t284 = true then ((familychecklaw01_known.f k).bind fun t285 => (some t285)) else (some false))) else (some false)))) = some r := H
    have A11 := Aside0.mk A110
    clear A110
    replace H := Option.bind_eq_some_iff.mp H
    obtain ⟨t282, A120, H⟩ := H
    replace H : ((familychecklaw01_spoil.f k t273).bind fun t283 => (if t282 = true then ((familycheckref01_SameRow.f k t268 t271 l0_0 a0_1).bind fun t284 => (if t284 = true then ((familychecklaw01_known.f k).bind fun t285 => (some t285)) else (some false))) else (some false))) = some r := H
    have A12 := Aside0.mk A120
    clear A120
    replace H := Option.bind_eq_some_iff.mp H
    obtain ⟨t283, A130, H⟩ := H
    replace H : (if t282 = true then ((familycheckref01_SameRow.f k t268 t271 l0_0 a0_1).bind fun t284 => (if t284 = true then ((familychecklaw01_known.f k).bind fun t285 => (some t285)) else (some false))) else (some false)) = some r := H
    have A13 := Aside0.mk A130
    clear A130
    by_cases c14 : t282 = true
    · subst c14
      have H1 : ((familycheckref01_SameRow.f k t268 t271 l0_0 a0_1).bind fun t284 => (if t284 = true then ((familychecklaw01_known.f k).bind fun t285 => (some t285)) else (some false))) = some r := by rw [if_pos rfl] at H; exact H
      clear H
      have H := H1
      clear H1
      replace H := Option.bind_eq_some_iff.mp H
      obtain ⟨t284, A150, H⟩ := H
      replace H : (if t284 = true then ((familychecklaw01_known.f k).bind fun t285 => (some t285)) else (some false)) = some r := H
      have A15 := Aside0.mk A150
      clear A150
      by_cases c16 : t284 = true
      · subst c16
        have H1 : ((familychecklaw01_known.f k).bind fun t285 => (some t285)) = some r := by rw [if_pos rfl] at H; exact H
        clear H
        have H := H1
        clear H1
        replace H := Option.bind_eq_some_iff.mp H
        obtain ⟨t285, A170, H⟩ := H
        replace H : (some t285) = some r := H
        have A17 := Aside0.mk A170
        clear A170
        obtain rfl := Option.some.inj H
        go_enter Tryd.func5, Tryd.ntmps5
        try go_wp2_with (first | ((with_reducible refine gate_dst (N := 1) rfl ?_); refine box_event ?hg (N := 1) ?hd (cs := #[.slice A0_0 l0_0.length c0_0, .int .i64 a0_1]) (t := 33) ?hr ?_; (case hd => rfl); (case hg => rfl); (case hr => first | (go_simp; done) | (go_simp; rfl)); intro gb265 hg w18 hbox hb; have n0_ := Aside0.mk (below_step (by repeat (first | (with_reducible first | exact HB.out | apply below_alloc | apply pw_below_drewN | apply below_drew1) | exact HB.out)) hb); have n1_ := Aside0.mk (hbox); have n2_ := Aside0.mk ((by rw [hg]; exact (below_size (by repeat (first | (with_reducible first | exact HB.out | apply below_alloc | apply pw_below_drewN | apply below_drew1) | exact HB.out))) : w.heap.size ≤ gb265)); have n3_ := Aside0.mk ((by rw [hg]; exact (below_size (by repeat (first | (with_reducible first | exact HB.out | apply below_alloc | apply pw_below_drewN | apply below_drew1) | exact HB.out))) : w.heap.size ≤ gb265)); clear HB; have HB := n0_; have BK265 := n1_; have GW265 := n2_; have GE265 := n3_; clear n0_ n1_ n2_ n3_; clear hb hbox hg; have hcz19_0 : w18.cell? ⟨gb265, 0, none⟩ = some (.slice A0_0 l0_0.length c0_0) := (blk_cell BK265.out 0).trans rfl; have hcz19_1 : w18.cell? ⟨gb265, 1, none⟩ = some (.int .i64 a0_1) := (blk_cell BK265.out 1).trans rfl; have hfz19_0 := blk_frozen BK265.out 0; have hfz19_1 := blk_frozen BK265.out 1) | ((with_reducible refine gate_callee (f := 21) rfl ?_); refine goesL_ (some 7) rfl rfl Tryd.func21 (by kernel_rfl) rfl #[.agg #[.slice A0_0 l0_0.length c0_0, .int .i64 a0_1]] rfl (by (try simp only [List.map_toArray, List.map_cons, List.map_nil]); first | done | rfl | (simp only [List.length_drop, List.length_take]; rfl)) ?_; (with_reducible refine (familychecklaw01_long.calls _ _ l0_0 a0_1 false _ ?side1 ?side2 A2.out).mono ?_); (case side1 => repeat (first | exact (Kd.C_below HR0_0.out HB.out) | (with_reducible refine Kd.C_alloc ?_ _) | (with_reducible refine Kd.C_drewN ?_ _) | (with_reducible refine Kd.C_drew ?_))); (case side2 => exact HC0_0.out); rintro e w20 ⟨rfl, hb⟩; refine ⟨_, rfl, ?_⟩; have n0_ := Aside0.mk (blk_below (g := gb265) (o := .cells #[.slice A0_0 l0_0.length c0_0, .int .i64 a0_1] 33 (0, 0)) (by (with_reducible repeat (first | refine blk_drewN ?_ _ | refine blk_drew ?_ | refine blk_alloc ?_ _)); exact BK265.out) hb); have n1_ := Aside0.mk (below_step (by repeat (first | (with_reducible first | exact HB.out | apply below_alloc | apply pw_below_drewN | apply below_drew1 | refine below_set ?_ GE265.out) | exact HB.out)) hb); clear BK265; clear HB; have BK265 := n0_; have HB := n1_; clear n0_ n1_; (try clear hb); (try clear hb2); (try clear hk); (try clear hi); have hcz21_0 : w20.cell? ⟨gb265, 0, none⟩ = some (.slice A0_0 l0_0.length c0_0) := (blk_cell BK265.out 0).trans rfl; have hcz21_1 : w20.cell? ⟨gb265, 1, none⟩ = some (.int .i64 a0_1) := (blk_cell BK265.out 1).trans rfl; have hfz21_0 := blk_frozen BK265.out 0; have hfz21_1 := blk_frozen BK265.out 1) | ((with_reducible refine gate_callee (f := 26) rfl ?_); refine goesL_ (some 10) rfl rfl Tryd.func26 (by kernel_rfl) rfl #[.agg #[.slice A0_0 l0_0.length c0_0, .int .i64 a0_1]] rfl (by (try simp only [List.map_toArray, List.map_cons, List.map_nil]); first | done | rfl | (simp only [List.length_drop, List.length_take]; rfl)) ?_; (with_reducible refine (familycheckref01_CopyRow.calls _ _ l0_0 a0_1 t268 t271 _ ?side1 ?side2 A9.out).mono ?_); (case side1 => repeat (first | exact (Kd.C_below HR0_0.out HB.out) | (with_reducible refine Kd.C_alloc ?_ _) | (with_reducible refine Kd.C_drewN ?_ _) | (with_reducible refine Kd.C_drew ?_))); (case side2 => exact HC0_0.out); rintro e w22 ⟨v269, rfl, ho0, hb⟩; refine ⟨_, rfl, ?_⟩; have n0_ := Aside0.mk (Kd.R_lower ho0 (below_size (by repeat (first | (with_reducible first | exact HB.out | apply below_alloc | apply pw_below_drewN | apply below_drew1 | refine below_set ?_ GE265.out) | exact HB.out)))); have n1_ := Aside0.mk (blk_below (g := gb265) (o := .cells #[.slice A0_0 l0_0.length c0_0, .int .i64 a0_1] 33 (0, 0)) (by (with_reducible repeat (first | refine blk_drewN ?_ _ | refine blk_drew ?_ | refine blk_alloc ?_ _)); exact BK265.out) hb); have n2_ := Aside0.mk (below_step (by repeat (first | (with_reducible first | exact HB.out | apply below_alloc | apply pw_below_drewN | apply below_drew1 | refine below_set ?_ GE265.out) | exact HB.out)) hb); clear BK265; clear HB; have HO270 := n0_; have BK265 := n1_; have HB := n2_; clear n0_ n1_ n2_; (try clear hb); (try clear hb2); (try clear hk); (try clear hi); (try clear ho0)) | ((with_reducible refine gate_dst (N := 3) rfl ?_); refine box_event ?hg (N := 3) ?hd (cs := #[.slice none 0 0, .int .i64 0]) (t := 33) ?hr ?_; (case hd => rfl); (case hg => rfl); (case hr => first | (go_simp; done) | (go_simp; rfl)); intro gb272 hg w23 hbox hb; have n0_ := Aside0.mk (Kd.R_below (by (with_reducible repeat (first | apply Kd.R_alloc | apply Kd.R_drewN | apply Kd.R_drew)); exact HO270.out) hb); have n1_ := Aside0.mk (blk_below (g := gb265) (o := .cells #[.slice A0_0 l0_0.length c0_0, .int .i64 a0_1] 33 (0, 0)) (by (with_reducible repeat (first | refine blk_drewN ?_ _ | refine blk_drew ?_ | refine blk_alloc ?_ _)); exact BK265.out) hb); have n2_ := Aside0.mk (below_step (by repeat (first | (with_reducible first | exact HB.out | apply below_alloc | apply pw_below_drewN | apply below_drew1 | refine below_set ?_ GE265.out) | exact HB.out)) hb); have n3_ := Aside0.mk (hbox); have n4_ := Aside0.mk ((by rw [hg]; exact (below_size (by repeat (first | (with_reducible first | exact HB.out | apply below_alloc | apply pw_below_drewN | apply below_drew1 | refine below_set ?_ GE265.out) | exact HB.out))) : w.heap.size ≤ gb272)); have n5_ := Aside0.mk ((by rw [hg]; exact (below_size (by repeat (first | (with_reducible first | exact HB.out | apply below_alloc | apply pw_below_drewN | apply below_drew1 | refine below_set ?_ GE265.out) | exact HB.out))) : w.heap.size ≤ gb272)); have n6_ := Aside0.mk ((by rw [hg]; exact Nat.ne_of_lt (blk_lt (g := gb265) (o := .cells #[.slice A0_0 l0_0.length c0_0, .int .i64 a0_1] 33 (0, 0)) (by (with_reducible repeat (first | refine blk_drewN ?_ _ | refine blk_drew ?_ | refine blk_alloc ?_ _)); exact BK265.out)) : gb265 ≠ gb272)); have n7_ := Aside0.mk ((by rw [hg]; exact Nat.ne_of_gt (blk_lt (g := gb265) (o := .cells #[.slice A0_0 l0_0.length c0_0, .int .i64 a0_1] 33 (0, 0)) (by (with_reducible repeat (first | refine blk_drewN ?_ _ | refine blk_drew ?_ | refine blk_alloc ?_ _)); exact BK265.out)) : gb272 ≠ gb265)); clear HO270; clear BK265; clear HB; have HO270 := n0_; have BK265 := n1_; have HB := n2_; have BK272 := n3_; have GW272 := n4_; have GE272 := n5_; have NB265_272 := n6_; have NB272_265 := n7_; clear n0_ n1_ n2_ n3_ n4_ n5_ n6_ n7_; clear hb hbox hg; obtain ⟨Ao24, co24, eo24⟩ := Kd.R_slice HO270.out; subst eo24; have hnb25 := NB272_265.out; have hnc25 := NB265_272.out; have hcz26_0 : w23.cell? ⟨gb272, 0, none⟩ = some (.slice none 0 0) := (blk_cell BK272.out 0).trans rfl; have hcz26_1 : w23.cell? ⟨gb272, 1, none⟩ = some (.int .i64 0) := (blk_cell BK272.out 1).trans rfl; have hfz26_0 := blk_frozen BK272.out 0; have hfz26_1 := blk_frozen BK272.out 1) | ((with_reducible refine gate_callee (f := 27) rfl ?_); refine goesL_ (some 12) rfl rfl Tryd.func27 (by kernel_rfl) rfl #[.agg #[.slice Ao24 t268.length co24, .int .i64 t271]] rfl (by (try simp only [List.map_toArray, List.map_cons, List.map_nil]); first | done | rfl | (simp only [List.length_drop, List.length_take]; rfl)) ?_; (with_reducible refine (linear_Tighten.calls k _ _ t268 t271 t273 t276 _ ?side1 ?side2 A10.out).mono ?_); (case side1 => refine (Kd.R_reads' (e := 3) (base := w.heap.size) (ok := fun k_ => True) (n := t268.length) (c := co24) ?_).2.2; exact (by (with_reducible repeat (first | apply Kd.R_alloc | apply Kd.R_drewN | apply Kd.R_drew)); exact (Kd.R_mono (Kd.R_far (p := ⟨gb272, 1, none⟩) (Kd.R_far (p := ⟨gb272, 0, none⟩) (Kd.R_types HO270.out BK272.out (by decide)) (fun _ hk => hk.2) (.slice Ao24 t268.length co24)) (fun _ hk => hk.2) (.int .i64 t271)) (fun _ h_ => h_.1)))); (case side2 => exact (Kd.R_reads' HO270.out).2.1); rintro e w27 ⟨v274, rfl, ho0, hb⟩; refine ⟨_, rfl, ?_⟩; have n0_ := Aside0.mk (Kd.R_elder' (by (with_reducible repeat (first | apply Kd.R_alloc | apply Kd.R_drewN | apply Kd.R_drew)); exact (Kd.R_mono (Kd.R_far (p := ⟨gb272, 1, none⟩) (Kd.R_far (p := ⟨gb272, 0, none⟩) (Kd.R_types HO270.out BK272.out (by decide)) (fun _ hk => hk.2) (.slice Ao24 t268.length co24)) (fun _ hk => hk.2) (.int .i64 t271)) (fun _ h_ => h_.1))) (Kd.R_base ho0) hb); have n1_ := Aside0.mk (Kd.R_lower (Kd.R_new' ho0 (Kd.R_lt (by (with_reducible repeat (first | apply Kd.R_alloc | apply Kd.R_drewN | apply Kd.R_drew)); exact (Kd.R_mono (Kd.R_far (p := ⟨gb272, 1, none⟩) (Kd.R_far (p := ⟨gb272, 0, none⟩) (Kd.R_types HO270.out BK272.out (by decide)) (fun _ hk => hk.2) (.slice Ao24 t268.length co24)) (fun _ hk => hk.2) (.int .i64 t271)) (fun _ h_ => h_.1))))) (below_size (by repeat (first | (with_reducible first | exact HB.out | apply below_alloc | apply pw_below_drewN | apply below_drew1 | refine below_set ?_ GE265.out | refine below_set ?_ GE272.out) | exact HB.out)))); have n2_ := Aside0.mk (blk_below (g := gb265) (o := .cells #[.slice A0_0 l0_0.length c0_0, .int .i64 a0_1] 33 (0, 0)) (by (with_reducible repeat (first | refine blk_drewN ?_ _ | refine blk_drew ?_ | refine blk_alloc ?_ _)); refine blk_far ?_ NB265_272.out _; (with_reducible repeat (first | refine blk_drewN ?_ _ | refine blk_drew ?_ | refine blk_alloc ?_ _)); refine blk_far ?_ NB265_272.out _; (with_reducible repeat (first | refine blk_drewN ?_ _ | refine blk_drew ?_ | refine blk_alloc ?_ _)); exact BK265.out) hb); have n3_ := Aside0.mk (blk_below (g := gb272) (o := .cells #[.slice Ao24 t268.length co24, .int .i64 t271] 33 (0, 0)) (by (with_reducible repeat (first | refine blk_drewN ?_ _ | refine blk_drew ?_ | refine blk_alloc ?_ _)); refine blk_put (cs := #[.slice Ao24 t268.length co24, .int .i64 0]) ?_ 1 _ rfl; (with_reducible repeat (first | refine blk_drewN ?_ _ | refine blk_drew ?_ | refine blk_alloc ?_ _)); refine blk_put (cs := #[.slice none 0 0, .int .i64 0]) ?_ 0 _ rfl; (with_reducible repeat (first | refine blk_drewN ?_ _ | refine blk_drew ?_ | refine blk_alloc ?_ _)); exact BK272.out) hb); have n4_ := Aside0.mk (below_step (by repeat (first | (with_reducible first | exact HB.out | apply below_alloc | apply pw_below_drewN | apply below_drew1 | refine below_set ?_ GE265.out | refine below_set ?_ GE272.out) | exact HB.out)) hb); clear HO270; clear BK265; clear BK272; clear HB; have HO270 := n0_; have HO275 := n1_; have BK265 := n2_; have BK272 := n3_; have HB := n4_; clear n0_ n1_ n2_ n3_ n4_; (try clear hb); (try clear hb2); (try clear hk); (try clear hi); (try clear ho0)) | ((with_reducible refine gate_dst (N := 4) rfl ?_); refine box_event ?hg (N := 4) ?hd (cs := #[.slice none 0 0, .int .i64 0]) (t := 33) ?hr ?_; (case hd => rfl); (case hg => rfl); (case hr => first | (go_simp; done) | (go_simp; rfl)); intro gb277 hg w28 hbox hb; have n0_ := Aside0.mk (Kd.R_below (by (with_reducible repeat (first | apply Kd.R_alloc | apply Kd.R_drewN | apply Kd.R_drew)); exact HO270.out) hb); have n1_ := Aside0.mk (Kd.R_below (by (with_reducible repeat (first | apply Kd.R_alloc | apply Kd.R_drewN | apply Kd.R_drew)); exact HO275.out) hb); have n2_ := Aside0.mk (blk_below (g := gb265) (o := .cells #[.slice A0_0 l0_0.length c0_0, .int .i64 a0_1] 33 (0, 0)) (by (with_reducible repeat (first | refine blk_drewN ?_ _ | refine blk_drew ?_ | refine blk_alloc ?_ _)); exact BK265.out) hb); have n3_ := Aside0.mk (blk_below (g := gb272) (o := .cells #[.slice Ao24 t268.length co24, .int .i64 t271] 33 (0, 0)) (by (with_reducible repeat (first | refine blk_drewN ?_ _ | refine blk_drew ?_ | refine blk_alloc ?_ _)); exact BK272.out) hb); have n4_ := Aside0.mk (below_step (by repeat (first | (with_reducible first | exact HB.out | apply below_alloc | apply pw_below_drewN | apply below_drew1 | refine below_set ?_ GE265.out | refine below_set ?_ GE272.out) | exact HB.out)) hb); have n5_ := Aside0.mk (hbox); have n6_ := Aside0.mk ((by rw [hg]; exact (below_size (by repeat (first | (with_reducible first | exact HB.out | apply below_alloc | apply pw_below_drewN | apply below_drew1 | refine below_set ?_ GE265.out | refine below_set ?_ GE272.out) | exact HB.out))) : w.heap.size ≤ gb277)); have n7_ := Aside0.mk ((by rw [hg]; exact (below_size (by repeat (first | (with_reducible first | exact HB.out | apply below_alloc | apply pw_below_drewN | apply below_drew1 | refine below_set ?_ GE265.out | refine below_set ?_ GE272.out) | exact HB.out))) : w.heap.size ≤ gb277)); have n8_ := Aside0.mk ((by rw [hg]; exact Nat.ne_of_lt (blk_lt (g := gb265) (o := .cells #[.slice A0_0 l0_0.length c0_0, .int .i64 a0_1] 33 (0, 0)) (by (with_reducible repeat (first | refine blk_drewN ?_ _ | refine blk_drew ?_ | refine blk_alloc ?_ _)); exact BK265.out)) : gb265 ≠ gb277)); have n9_ := Aside0.mk ((by rw [hg]; exact Nat.ne_of_gt (blk_lt (g := gb265) (o := .cells #[.slice A0_0 l0_0.length c0_0, .int .i64 a0_1] 33 (0, 0)) (by (with_reducible repeat (first | refine blk_drewN ?_ _ | refine blk_drew ?_ | refine blk_alloc ?_ _)); exact BK265.out)) : gb277 ≠ gb265)); have n10_ := Aside0.mk ((by rw [hg]; exact Nat.ne_of_lt (blk_lt (g := gb272) (o := .cells #[.slice Ao24 t268.length co24, .int .i64 t271] 33 (0, 0)) (by (with_reducible repeat (first | refine blk_drewN ?_ _ | refine blk_drew ?_ | refine blk_alloc ?_ _)); exact BK272.out)) : gb272 ≠ gb277)); have n11_ := Aside0.mk ((by rw [hg]; exact Nat.ne_of_gt (blk_lt (g := gb272) (o := .cells #[.slice Ao24 t268.length co24, .int .i64 t271] 33 (0, 0)) (by (with_reducible repeat (first | refine blk_drewN ?_ _ | refine blk_drew ?_ | refine blk_alloc ?_ _)); exact BK272.out)) : gb277 ≠ gb272)); clear HO270; clear HO275; clear BK265; clear BK272; clear HB; have HO270 := n0_; have HO275 := n1_; have BK265 := n2_; have BK272 := n3_; have HB := n4_; have BK277 := n5_; have GW277 := n6_; have GE277 := n7_; have NB265_277 := n8_; have NB277_265 := n9_; have NB272_277 := n10_; have NB277_272 := n11_; clear n0_ n1_ n2_ n3_ n4_ n5_ n6_ n7_ n8_ n9_ n10_ n11_; clear hb hbox hg; obtain ⟨Ao29, co29, eo29⟩ := Kd.R_slice HO275.out; subst eo29; have hnb30 := NB277_265.out; have hnc30 := NB265_277.out; have hnb31 := NB277_272.out; have hnc31 := NB272_277.out; have hcz32_0 : w28.cell? ⟨gb277, 0, none⟩ = some (.slice none 0 0) := (blk_cell BK277.out 0).trans rfl; have hcz32_1 : w28.cell? ⟨gb277, 1, none⟩ = some (.int .i64 0) := (blk_cell BK277.out 1).trans rfl; have hfz32_0 := blk_frozen BK277.out 0; have hfz32_1 := blk_frozen BK277.out 1))
        have n0_ : Aside0 (Kd.R (Kd.int .i64) 3 ((w28.setCell ⟨gb277, 0, none⟩ (.slice Ao29 t273.length co29)).setCell ⟨gb277, 1, none⟩ (.int .i64 t276)) w.heap.size (fun k_ => some k_ ≠ (.slice Ao29 t273.length co29 : Value).ownBlock) (.slice Ao24 t268.length co24) t268) := ⟨by (with_reducible repeat (first | apply Kd.R_alloc | apply Kd.R_drewN | apply Kd.R_drew)); exact Kd.R_mono (Kd.R_far (p := ⟨gb277, 1, none⟩) (Kd.R_far (p := ⟨gb277, 0, none⟩) (Kd.R_types HO270.out BK277.out (by decide)) (fun _ hk => hk.2) (.slice Ao29 t273.length co29)) (fun _ hk => hk.2) (.int .i64 t276)) (fun _ hk => hk.1.2)⟩
        have n1_ : Aside0 (Kd.R (Kd.int .i64) 3 ((w28.setCell ⟨gb277, 0, none⟩ (.slice Ao29 t273.length co29)).setCell ⟨gb277, 1, none⟩ (.int .i64 t276)) w.heap.size (fun k_ => some k_ ≠ (.slice Ao24 t268.length co24 : Value).ownBlock) (.slice Ao29 t273.length co29) t273) := ⟨by (with_reducible repeat (first | apply Kd.R_alloc | apply Kd.R_drewN | apply Kd.R_drew)); exact Kd.R_mono (Kd.R_far (p := ⟨gb277, 1, none⟩) (Kd.R_far (p := ⟨gb277, 0, none⟩) (Kd.R_types HO275.out BK277.out (by decide)) (fun _ hk => hk.2) (.slice Ao29 t273.length co29)) (fun _ hk => hk.2) (.int .i64 t276)) (fun _ hk => hk.1.2)⟩
        have n2_ : Aside0 (((w28.setCell ⟨gb277, 0, none⟩ (.slice Ao29 t273.length co29)).setCell ⟨gb277, 1, none⟩ (.int .i64 t276)).heap[gb265]? = some (.cells #[.slice A0_0 l0_0.length c0_0, .int .i64 a0_1] 33 (0, 0))) := ⟨by (with_reducible repeat (first | refine blk_drewN ?_ _ | refine blk_drew ?_ | refine blk_alloc ?_ _)); refine blk_far ?_ NB265_277.out _; (with_reducible repeat (first | refine blk_drewN ?_ _ | refine blk_drew ?_ | refine blk_alloc ?_ _)); refine blk_far ?_ NB265_277.out _; (with_reducible repeat (first | refine blk_drewN ?_ _ | refine blk_drew ?_ | refine blk_alloc ?_ _)); exact BK265.out⟩
        have n3_ : Aside0 (((w28.setCell ⟨gb277, 0, none⟩ (.slice Ao29 t273.length co29)).setCell ⟨gb277, 1, none⟩ (.int .i64 t276)).heap[gb272]? = some (.cells #[.slice Ao24 t268.length co24, .int .i64 t271] 33 (0, 0))) := ⟨by (with_reducible repeat (first | refine blk_drewN ?_ _ | refine blk_drew ?_ | refine blk_alloc ?_ _)); refine blk_far ?_ NB272_277.out _; (with_reducible repeat (first | refine blk_drewN ?_ _ | refine blk_drew ?_ | refine blk_alloc ?_ _)); refine blk_far ?_ NB272_277.out _; (with_reducible repeat (first | refine blk_drewN ?_ _ | refine blk_drew ?_ | refine blk_alloc ?_ _)); exact BK272.out⟩
        have n4_ : Aside0 (((w28.setCell ⟨gb277, 0, none⟩ (.slice Ao29 t273.length co29)).setCell ⟨gb277, 1, none⟩ (.int .i64 t276)).heap[gb277]? = some (.cells #[.slice Ao29 t273.length co29, .int .i64 t276] 33 (0, 0))) := ⟨by (with_reducible repeat (first | refine blk_drewN ?_ _ | refine blk_drew ?_ | refine blk_alloc ?_ _)); refine blk_put (cs := #[.slice Ao29 t273.length co29, .int .i64 0]) ?_ 1 _ rfl; (with_reducible repeat (first | refine blk_drewN ?_ _ | refine blk_drew ?_ | refine blk_alloc ?_ _)); refine blk_put (cs := #[.slice none 0 0, .int .i64 0]) ?_ 0 _ rfl; (with_reducible repeat (first | refine blk_drewN ?_ _ | refine blk_drew ?_ | refine blk_alloc ?_ _)); exact BK277.out⟩
        have n5_ : Aside0 (Below w.heap.size w ((w28.setCell ⟨gb277, 0, none⟩ (.slice Ao29 t273.length co29)).setCell ⟨gb277, 1, none⟩ (.int .i64 t276))) := ⟨by repeat (first | (with_reducible first | exact HB.out | apply below_alloc | apply pw_below_drewN | apply below_drew1 | refine below_set ?_ GE265.out | refine below_set ?_ GE272.out | refine below_set ?_ GE277.out) | exact HB.out)⟩
        (try clear HO270)
        (try clear HO275)
        (try clear BK265)
        (try clear BK272)
        (try clear BK277)
        (try clear HB)
        generalize ((w28.setCell ⟨gb277, 0, none⟩ (.slice Ao29 t273.length co29)).setCell ⟨gb277, 1, none⟩ (.int .i64 t276)) = w33 at n0_ n1_ n2_ n3_ n4_ n5_ ⊢
        have HO270 := n0_
        have HO275 := n1_
        have BK265 := n2_
        have BK272 := n3_
        have BK277 := n4_
        have HB := n5_
        clear n0_ n1_ n2_ n3_ n4_ n5_
        have n0_ := Aside0.mk (Kd.R_drew HO270.out)
        have n1_ := Aside0.mk (Kd.R_drew HO275.out)
        have n2_ := Aside0.mk (blk_drew BK265.out)
        have n3_ := Aside0.mk (blk_drew BK272.out)
        have n4_ := Aside0.mk (blk_drew BK277.out)
        have n5_ := Aside0.mk (below_drew1 HB.out)
        clear HO270
        clear HO275
        clear BK265
        clear BK272
        clear BK277
        clear HB
        have HO270 := n0_
        have HO275 := n1_
        have BK265 := n2_
        have BK272 := n3_
        have BK277 := n4_
        have HB := n5_
        clear n0_ n1_ n2_ n3_ n4_ n5_
        refine start_ (n := 5) (S := fun w' => w'.cell? ⟨gb277, 0, none⟩ = some (.slice Ao29 t273.length co29) ∧ w'.cell? ⟨gb277, 1, none⟩ = some (.int .i64 t276) ∧ w'.cell? ⟨gb265, 0, none⟩ = some (.slice A0_0 l0_0.length c0_0) ∧ w'.cell? ⟨gb265, 1, none⟩ = some (.int .i64 a0_1)) (ds := []) #[false, false, false, false, false] (by kernel_rfl) rfl rfl ⟨(blk_cell BK277.out 0).trans rfl, (blk_cell BK277.out 1).trans rfl, (blk_cell BK265.out 0).trans rfl, (blk_cell BK265.out 1).trans rfl⟩ (fun hHeld => ?_)
        generalize w33.drew = w34 at HO270 HO275 BK265 BK272 BK277 HB hHeld ⊢
        refine take_ (i := 0) (N := some 13) (v := ?_) (a' := ?_) #[true, false, false, false, false] rfl rfl (by kernel_rfl) (fun _ _ _ h => h) (Or.inl ⟨by rfl, ?_⟩) hHeld ?_ ?_
        rotate_left
        · rintro w' ⟨s0, s1, s2, s3⟩
          go_simp
          with_reducible rfl
        rotate_left
        · simp only [Act.put, List.setIfInBounds_toArray, List.set_cons_zero, List.set_cons_succ, i64_w, i32_w]
          rfl
        refine take_ (i := 1) (N := some 14) (v := ?_) (a' := ?_) #[true, true, false, false, false] rfl rfl (by kernel_rfl) (fun _ _ _ h => h) (Or.inl ⟨by rfl, ?_⟩) hHeld ?_ ?_
        rotate_left
        · rintro w' ⟨s0, s1, s2, s3⟩
          go_simp
          with_reducible rfl
        rotate_left
        · simp only [Act.put, List.setIfInBounds_toArray, List.set_cons_zero, List.set_cons_succ, i64_w, i32_w]
          rfl
        refine one_ (i := 2) (N := some 15) #[true, true, true, false, false] rfl rfl (by kernel_rfl) (by decide) (fun K hK => ?_)
        refine goes_ Tryd.func29 (by kernel_rfl) rfl #[.agg #[.slice A0_0 l0_0.length c0_0, .int .i64 a0_1]] (by rfl) rfl rfl (by (try simp only [List.map_toArray, List.map_cons, List.map_nil]); first | done | rfl | (simp only [List.length_drop, List.length_take]; rfl)) ?_
        with_reducible refine (familycheckref01_Tighten.calls k _ _ l0_0 a0_1 t278 t281 _ ?side1 ?side2 A11.out).mono ?_
        (case side1 => repeat (first | exact (Kd.C_below HR0_0.out HB.out) | (with_reducible refine Kd.C_alloc ?_ _) | (with_reducible refine Kd.C_drewN ?_ _) | (with_reducible refine Kd.C_drew ?_)))
        (case side2 => exact HC0_0.out)
        rintro e w35 ⟨v279, rfl, ho0, hb⟩
        refine ⟨_, rfl, ?_⟩
        have n0_ := Aside0.mk (Kd.R_elder' (by (with_reducible repeat (first | apply Kd.R_alloc | apply Kd.R_drewN | apply Kd.R_drew)); exact HO270.out) (Kd.R_base ho0) hb)
        have n1_ := Aside0.mk (Kd.R_elder' (by (with_reducible repeat (first | apply Kd.R_alloc | apply Kd.R_drewN | apply Kd.R_drew)); exact HO275.out) (Kd.R_base ho0) hb)
        have n2_ := Aside0.mk (Kd.R_lower (Kd.R_new' (Kd.R_new' ho0 (Kd.R_lt (by (with_reducible repeat (first | apply Kd.R_alloc | apply Kd.R_drewN | apply Kd.R_drew)); exact HO270.out))) (Kd.R_lt (by (with_reducible repeat (first | apply Kd.R_alloc | apply Kd.R_drewN | apply Kd.R_drew)); exact HO275.out))) (below_size (by repeat (first | (with_reducible first | exact HB.out | apply below_alloc | apply pw_below_drewN | apply below_drew1 | refine below_set ?_ GE265.out | refine below_set ?_ GE272.out | refine below_set ?_ GE277.out) | exact HB.out))))
        have n3_ := Aside0.mk (blk_below (g := gb265) (o := .cells #[.slice A0_0 l0_0.length c0_0, .int .i64 a0_1] 33 (0, 0)) (by (with_reducible repeat (first | refine blk_drewN ?_ _ | refine blk_drew ?_ | refine blk_alloc ?_ _)); exact BK265.out) hb)
        have n4_ := Aside0.mk (blk_below (g := gb272) (o := .cells #[.slice Ao24 t268.length co24, .int .i64 t271] 33 (0, 0)) (by (with_reducible repeat (first | refine blk_drewN ?_ _ | refine blk_drew ?_ | refine blk_alloc ?_ _)); exact BK272.out) hb)
        have n5_ := Aside0.mk (blk_below (g := gb277) (o := .cells #[.slice Ao29 t273.length co29, .int .i64 t276] 33 (0, 0)) (by (with_reducible repeat (first | refine blk_drewN ?_ _ | refine blk_drew ?_ | refine blk_alloc ?_ _)); exact BK277.out) hb)
        have n6_ := Aside0.mk (below_step (by repeat (first | (with_reducible first | exact HB.out | apply below_alloc | apply pw_below_drewN | apply below_drew1 | refine below_set ?_ GE265.out | refine below_set ?_ GE272.out | refine below_set ?_ GE277.out) | exact HB.out)) hb)
        clear HO270
        clear HO275
        clear BK265
        clear BK272
        clear BK277
        clear HB
        have HO270 := n0_
        have HO275 := n1_
        have HO280 := n2_
        have BK265 := n3_
        have BK272 := n4_
        have BK277 := n5_
        have HB := n6_
        clear n0_ n1_ n2_ n3_ n4_ n5_ n6_
        (try clear hb)
        (try clear hb2)
        (try clear hk)
        (try clear hi)
        (try clear ho0)
        obtain ⟨Ao36, co36, eo36⟩ := Kd.R_slice HO280.out
        (first | subst eo36 | (injection eo36 with f1_ f2_ f3_; have f4_ := f1_.symm; have f5_ := f3_.symm; clear f1_ f2_ f3_; subst f4_; subst f5_))
        refine hK.out _ _ ⟨(blk_cell BK277.out 0).trans rfl, (blk_cell BK277.out 1).trans rfl, (blk_cell BK265.out 0).trans rfl, (blk_cell BK265.out 1).trans rfl⟩ (fun hHeld => ?_)
        clear hK K
        refine norm_ (a' := ?_) ?_ ?_
        rotate_left
        · show Act.put _ (some 15) _ = _
          simp only [Act.put, List.setIfInBounds_toArray, List.set_cons_zero, List.set_cons_succ, i64_w, i32_w]
          rfl
        refine one_ (i := 3) (N := some 16) #[true, true, true, true, false] rfl rfl (by kernel_rfl) (by decide) (fun K hK => ?_)
        refine goes_ Tryd.func28 (by kernel_rfl) rfl #[.agg #[.slice Ao29 t273.length co29, .int .i64 t276], .agg #[.slice Ao36 t278.length co36, .int .i64 t281]] (by rfl) rfl rfl (by (try simp only [List.map_toArray, List.map_cons, List.map_nil]); first | done | rfl | (simp only [List.length_drop, List.length_take]; rfl)) ?_
        with_reducible refine (familycheckref01_SameRow.calls k _ _ t273 t276 _ _ t278 t281 true _ ?side1 ?side2 ?side3 ?side4 A12.out).mono ?_
        (case side1 => repeat (first | exact (Kd.R_reads' HO275.out).2.2 | (with_reducible refine Kd.C_alloc ?_ _) | (with_reducible refine Kd.C_drewN ?_ _) | (with_reducible refine Kd.C_drew ?_)))
        (case side2 => exact (Kd.R_reads' HO275.out).2.1)
        (case side3 => repeat (first | exact (Kd.R_reads' HO280.out).2.2 | (with_reducible refine Kd.C_alloc ?_ _) | (with_reducible refine Kd.C_drewN ?_ _) | (with_reducible refine Kd.C_drew ?_)))
        (case side4 => exact (Kd.R_reads' HO280.out).2.1)
        rintro e w37 ⟨rfl, hb⟩
        refine ⟨_, rfl, ?_⟩
        have n0_ := Aside0.mk (Kd.R_below (by (with_reducible repeat (first | apply Kd.R_alloc | apply Kd.R_drewN | apply Kd.R_drew)); exact HO270.out) hb)
        have n1_ := Aside0.mk (Kd.R_below (by (with_reducible repeat (first | apply Kd.R_alloc | apply Kd.R_drewN | apply Kd.R_drew)); exact HO275.out) hb)
        have n2_ := Aside0.mk (Kd.R_below (by (with_reducible repeat (first | apply Kd.R_alloc | apply Kd.R_drewN | apply Kd.R_drew)); exact HO280.out) hb)
        have n3_ := Aside0.mk (blk_below (g := gb265) (o := .cells #[.slice A0_0 l0_0.length c0_0, .int .i64 a0_1] 33 (0, 0)) (by (with_reducible repeat (first | refine blk_drewN ?_ _ | refine blk_drew ?_ | refine blk_alloc ?_ _)); exact BK265.out) hb)
        have n4_ := Aside0.mk (blk_below (g := gb272) (o := .cells #[.slice Ao24 t268.length co24, .int .i64 t271] 33 (0, 0)) (by (with_reducible repeat (first | refine blk_drewN ?_ _ | refine blk_drew ?_ | refine blk_alloc ?_ _)); exact BK272.out) hb)
        have n5_ := Aside0.mk (blk_below (g := gb277) (o := .cells #[.slice Ao29 t273.length co29, .int .i64 t276] 33 (0, 0)) (by (with_reducible repeat (first | refine blk_drewN ?_ _ | refine blk_drew ?_ | refine blk_alloc ?_ _)); exact BK277.out) hb)
        have n6_ := Aside0.mk (below_step (by repeat (first | (with_reducible first | exact HB.out | apply below_alloc | apply pw_below_drewN | apply below_drew1 | refine below_set ?_ GE265.out | refine below_set ?_ GE272.out | refine below_set ?_ GE277.out) | exact HB.out)) hb)
        clear HO270
        clear HO275
        clear HO280
        clear BK265
        clear BK272
        clear BK277
        clear HB
        have HO270 := n0_
        have HO275 := n1_
        have HO280 := n2_
        have BK265 := n3_
        have BK272 := n4_
        have BK277 := n5_
        have HB := n6_
        clear n0_ n1_ n2_ n3_ n4_ n5_ n6_
        (try clear hb)
        (try clear hb2)
        (try clear hk)
        (try clear hi)
        refine hK.out _ _ ⟨(blk_cell BK277.out 0).trans rfl, (blk_cell BK277.out 1).trans rfl, (blk_cell BK265.out 0).trans rfl, (blk_cell BK265.out 1).trans rfl⟩ (fun hHeld => ?_)
        clear hK K
        refine norm_ (a' := ?_) ?_ ?_
        rotate_left
        · show Act.put _ (some 16) _ = _
          simp only [Act.put, List.setIfInBounds_toArray, List.set_cons_zero, List.set_cons_succ, i64_w, i32_w]
          rfl
        refine pure_ (i := 4) (N := some 5) (v := ?_) (a' := ?_) #[true, true, true, true, true] rfl rfl (by kernel_rfl) (fun _ _ _ h => h) (Or.inl ⟨by rfl, ?_⟩) ?_ ?_
        rotate_left
        · intro w'
          go_simp
          with_reducible rfl
        rotate_left
        · simp only [Act.put, List.setIfInBounds_toArray, List.set_cons_zero, List.set_cons_succ, i64_w, i32_w]
          rfl
        refine done_ (by kernel_rfl) ?_
        have hcz38_0 : w37.cell? ⟨gb277, 0, none⟩ = some (.slice Ao29 t273.length co29) := (blk_cell BK277.out 0).trans rfl
        have hcz38_1 : w37.cell? ⟨gb277, 1, none⟩ = some (.int .i64 t276) := (blk_cell BK277.out 1).trans rfl
        have hfz38_0 := blk_frozen BK277.out 0
        have hfz38_1 := blk_frozen BK277.out 1
        try go_wp2_with (first | ((with_reducible refine gate_callee (f := 30) rfl ?_); refine goesL_ (some 19) rfl rfl Tryd.func30 (by kernel_rfl) rfl #[.slice Ao29 t273.length co29] rfl (by (try simp only [List.map_toArray, List.map_cons, List.map_nil]); first | done | rfl | (simp only [List.length_drop, List.length_take]; rfl)) ?_; (with_reducible refine (familychecklaw01_spoil.calls k (fun k_ => some k_ = (.slice Ao29 t273.length co29 : Value).ownBlock) (.slice Ao29 t273.length co29) t273 t283 w _ ?side1 ?side2 A13.out).mono ?_); (case side1 => repeat (first | (with_reducible first | exact HB.out | apply below_alloc | apply pw_below_drewN | apply below_drew1 | refine below_set ?_ GE265.out | refine below_set ?_ GE272.out | refine below_set ?_ GE277.out) | exact HB.out)); (case side2 => exact Kd.R_tight rfl HO275.out); rintro e w39 ⟨rfl, hy0, hb, hkp⟩; refine ⟨_, rfl, ?_⟩; have n0_ := Aside0.mk (blk_kept (by (with_reducible repeat (first | refine blk_drewN ?_ _ | refine blk_drew ?_ | refine blk_alloc ?_ _)); exact BK265.out) hkp (fun hs_ => (fun e_ => (Kd.R_ne HO275.out BK265.out (by decide)) e_) hs_)); have n1_ := Aside0.mk (Kd.R_mono (ok' := fun k_ => some k_ ≠ (.slice Ao29 t273.length co29 : Value).ownBlock ∧ some k_ ≠ (.slice Ao36 t278.length co36 : Value).ownBlock) (Kd.R_keptB (HO270.out) hkp (fun k_ hk_ hs_ => (hk_.1) hs_)) (fun k_ hk_ => ⟨hk_.1.1, hk_.1.2⟩)); have n2_ := Aside0.mk (blk_kept (by (with_reducible repeat (first | refine blk_drewN ?_ _ | refine blk_drew ?_ | refine blk_alloc ?_ _)); exact BK272.out) hkp (fun hs_ => (fun e_ => (Kd.R_ne HO275.out BK272.out (by decide)) e_) hs_)); have n3_ := Aside0.mk (Kd.R_reok rfl hy0 (fun k_ e_ => HO275.out.1 k_ e_)); have n4_ := Aside0.mk (blk_kept (by (with_reducible repeat (first | refine blk_drewN ?_ _ | refine blk_drew ?_ | refine blk_alloc ?_ _)); exact BK277.out) hkp (fun hs_ => (fun e_ => (Kd.R_ne HO275.out BK277.out (by decide)) e_) hs_)); have n5_ := Aside0.mk (Kd.R_mono (ok' := fun k_ => some k_ ≠ (.slice Ao24 t268.length co24 : Value).ownBlock ∧ some k_ ≠ (.slice Ao29 t273.length co29 : Value).ownBlock) (Kd.R_keptB (HO280.out) hkp (fun k_ hk_ hs_ => (hk_.2) hs_)) (fun k_ hk_ => ⟨hk_.1.1.2, hk_.1.2⟩)); have n6_ := Aside0.mk (hb); clear BK265; clear HO270; clear BK272; clear HO275; clear BK277; clear HO280; clear HB; have BK265 := n0_; have HO270 := n1_; have BK272 := n2_; have HO275 := n3_; have BK277 := n4_; have HO280 := n5_; have HB := n6_; clear n0_ n1_ n2_ n3_ n4_ n5_ n6_; (try clear hb); (try clear hkp); (try clear hy0); have hcz40_0 : w39.cell? ⟨gb272, 0, none⟩ = some (.slice Ao24 t268.length co24) := (blk_cell BK272.out 0).trans rfl; have hcz40_1 : w39.cell? ⟨gb272, 1, none⟩ = some (.int .i64 t271) := (blk_cell BK272.out 1).trans rfl; have hfz40_0 := blk_frozen BK272.out 0; have hfz40_1 := blk_frozen BK272.out 1; have hcz41_0 : w39.cell? ⟨gb265, 0, none⟩ = some (.slice A0_0 l0_0.length c0_0) := (blk_cell BK265.out 0).trans rfl; have hcz41_1 : w39.cell? ⟨gb265, 1, none⟩ = some (.int .i64 a0_1) := (blk_cell BK265.out 1).trans rfl; have hfz41_0 := blk_frozen BK265.out 0; have hfz41_1 := blk_frozen BK265.out 1) | (go_at_call 28; (with_reducible refine (familycheckref01_SameRow.calls k _ _ t268 t271 _ _ l0_0 a0_1 true _ ?side1 ?side2 ?side3 ?side4 A15.out).mono ?_); (case side1 => repeat (first | exact (Kd.R_reads' HO270.out).2.2 | (with_reducible refine Kd.C_alloc ?_ _) | (with_reducible refine Kd.C_drewN ?_ _) | (with_reducible refine Kd.C_drew ?_))); (case side2 => exact (Kd.R_reads' HO270.out).2.1); (case side3 => repeat (first | exact (Kd.C_below HR0_0.out HB.out) | (with_reducible refine Kd.C_alloc ?_ _) | (with_reducible refine Kd.C_drewN ?_ _) | (with_reducible refine Kd.C_drew ?_))); (case side4 => exact HC0_0.out); rintro e w42 ⟨rfl, hb⟩; have n0_ := Aside0.mk (Kd.R_below (by (with_reducible repeat (first | apply Kd.R_alloc | apply Kd.R_drewN | apply Kd.R_drew)); exact HO270.out) hb); have n1_ := Aside0.mk (Kd.R_below (by (with_reducible repeat (first | apply Kd.R_alloc | apply Kd.R_drewN | apply Kd.R_drew)); exact HO275.out) hb); have n2_ := Aside0.mk (Kd.R_below (by (with_reducible repeat (first | apply Kd.R_alloc | apply Kd.R_drewN | apply Kd.R_drew)); exact HO280.out) hb); have n3_ := Aside0.mk (blk_below (g := gb265) (o := .cells #[.slice A0_0 l0_0.length c0_0, .int .i64 a0_1] 33 (0, 0)) (by (with_reducible repeat (first | refine blk_drewN ?_ _ | refine blk_drew ?_ | refine blk_alloc ?_ _)); exact BK265.out) hb); have n4_ := Aside0.mk (blk_below (g := gb272) (o := .cells #[.slice Ao24 t268.length co24, .int .i64 t271] 33 (0, 0)) (by (with_reducible repeat (first | refine blk_drewN ?_ _ | refine blk_drew ?_ | refine blk_alloc ?_ _)); exact BK272.out) hb); have n5_ := Aside0.mk (blk_below (g := gb277) (o := .cells #[.slice Ao29 t273.length co29, .int .i64 t276] 33 (0, 0)) (by (with_reducible repeat (first | refine blk_drewN ?_ _ | refine blk_drew ?_ | refine blk_alloc ?_ _)); exact BK277.out) hb); have n6_ := Aside0.mk (below_step (by repeat (first | (with_reducible first | exact HB.out | apply below_alloc | apply pw_below_drewN | apply below_drew1 | refine below_set ?_ GE265.out | refine below_set ?_ GE272.out | refine below_set ?_ GE277.out) | exact HB.out)) hb); clear HO270; clear HO275; clear HO280; clear BK265; clear BK272; clear BK277; clear HB; have HO270 := n0_; have HO275 := n1_; have HO280 := n2_; have BK265 := n3_; have BK272 := n4_; have BK277 := n5_; have HB := n6_; clear n0_ n1_ n2_ n3_ n4_ n5_ n6_; (try clear hb); (try clear hb2); (try clear hk); (try clear hi)) | (go_at_call 16; (with_reducible refine (familychecklaw01_known.calls k  t285 _ A17.out).mono ?_); rintro e w43 ⟨rfl, hb⟩; have n0_ := Aside0.mk (Kd.R_below (by (with_reducible repeat (first | apply Kd.R_alloc | apply Kd.R_drewN | apply Kd.R_drew)); exact HO270.out) hb); have n1_ := Aside0.mk (Kd.R_below (by (with_reducible repeat (first | apply Kd.R_alloc | apply Kd.R_drewN | apply Kd.R_drew)); exact HO275.out) hb); have n2_ := Aside0.mk (Kd.R_below (by (with_reducible repeat (first | apply Kd.R_alloc | apply Kd.R_drewN | apply Kd.R_drew)); exact HO280.out) hb); have n3_ := Aside0.mk (blk_below (g := gb265) (o := .cells #[.slice A0_0 l0_0.length c0_0, .int .i64 a0_1] 33 (0, 0)) (by (with_reducible repeat (first | refine blk_drewN ?_ _ | refine blk_drew ?_ | refine blk_alloc ?_ _)); exact BK265.out) hb); have n4_ := Aside0.mk (blk_below (g := gb272) (o := .cells #[.slice Ao24 t268.length co24, .int .i64 t271] 33 (0, 0)) (by (with_reducible repeat (first | refine blk_drewN ?_ _ | refine blk_drew ?_ | refine blk_alloc ?_ _)); exact BK272.out) hb); have n5_ := Aside0.mk (blk_below (g := gb277) (o := .cells #[.slice Ao29 t273.length co29, .int .i64 t276] 33 (0, 0)) (by (with_reducible repeat (first | refine blk_drewN ?_ _ | refine blk_drew ?_ | refine blk_alloc ?_ _)); exact BK277.out) hb); have n6_ := Aside0.mk (below_step (by repeat (first | (with_reducible first | exact HB.out | apply below_alloc | apply pw_below_drewN | apply below_drew1 | refine below_set ?_ GE265.out | refine below_set ?_ GE272.out | refine below_set ?_ GE277.out) | exact HB.out)) hb); clear HO270; clear HO275; clear HO280; clear BK265; clear BK272; clear BK277; clear HB; have HO270 := n0_; have HO275 := n1_; have HO280 := n2_; have BK265 := n3_; have BK272 := n4_; have BK277 := n5_; have HB := n6_; clear n0_ n1_ n2_ n3_ n4_ n5_ n6_; (try clear hb); (try clear hb2); (try clear hk); (try clear hi)))
        go_ret
        exact ⟨by first | rfl | (simp [errW_none, errW_some] <;> rfl) | (simp [*, errW_none, errW_some] <;> rfl), by repeat (first | (with_reducible first | exact HB.out | apply below_alloc | apply pw_below_drewN | apply below_drew1 | refine below_set ?_ GE265.out | refine below_set ?_ GE272.out | refine below_set ?_ GE277.out) | exact HB.out)⟩
      · replace c16 := Bool.eq_false_iff.mpr c16
        subst c16
        have H1 : (some false) = some r := by rw [if_neg (show ¬ (false = true) by decide)] at H; exact H
        clear H
        have H := H1
        clear H1
        obtain rfl := Option.some.inj H
        go_enter Tryd.func5, Tryd.ntmps5
        try go_wp2_with (first | ((with_reducible refine gate_dst (N := 1) rfl ?_); refine box_event ?hg (N := 1) ?hd (cs := #[.slice A0_0 l0_0.length c0_0, .int .i64 a0_1]) (t := 33) ?hr ?_; (case hd => rfl); (case hg => rfl); (case hr => first | (go_simp; done) | (go_simp; rfl)); intro gb265 hg w44 hbox hb; have n0_ := Aside0.mk (below_step (by repeat (first | (with_reducible first | exact HB.out | apply below_alloc | apply pw_below_drewN | apply below_drew1) | exact HB.out)) hb); have n1_ := Aside0.mk (hbox); have n2_ := Aside0.mk ((by rw [hg]; exact (below_size (by repeat (first | (with_reducible first | exact HB.out | apply below_alloc | apply pw_below_drewN | apply below_drew1) | exact HB.out))) : w.heap.size ≤ gb265)); have n3_ := Aside0.mk ((by rw [hg]; exact (below_size (by repeat (first | (with_reducible first | exact HB.out | apply below_alloc | apply pw_below_drewN | apply below_drew1) | exact HB.out))) : w.heap.size ≤ gb265)); clear HB; have HB := n0_; have BK265 := n1_; have GW265 := n2_; have GE265 := n3_; clear n0_ n1_ n2_ n3_; clear hb hbox hg; have hcz45_0 : w44.cell? ⟨gb265, 0, none⟩ = some (.slice A0_0 l0_0.length c0_0) := (blk_cell BK265.out 0).trans rfl; have hcz45_1 : w44.cell? ⟨gb265, 1, none⟩ = some (.int .i64 a0_1) := (blk_cell BK265.out 1).trans rfl; have hfz45_0 := blk_frozen BK265.out 0; have hfz45_1 := blk_frozen BK265.out 1) | ((with_reducible refine gate_callee (f := 21) rfl ?_); refine goesL_ (some 7) rfl rfl Tryd.func21 (by kernel_rfl) rfl #[.agg #[.slice A0_0 l0_0.length c0_0, .int .i64 a0_1]] rfl (by (try simp only [List.map_toArray, List.map_cons, List.map_nil]); first | done | rfl | (simp only [List.length_drop, List.length_take]; rfl)) ?_; (with_reducible refine (familychecklaw01_long.calls _ _ l0_0 a0_1 false _ ?side1 ?side2 A2.out).mono ?_); (case side1 => repeat (first | exact (Kd.C_below HR0_0.out HB.out) | (with_reducible refine Kd.C_alloc ?_ _) | (with_reducible refine Kd.C_drewN ?_ _) | (with_reducible refine Kd.C_drew ?_))); (case side2 => exact HC0_0.out); rintro e w46 ⟨rfl, hb⟩; refine ⟨_, rfl, ?_⟩; have n0_ := Aside0.mk (blk_below (g := gb265) (o := .cells #[.slice A0_0 l0_0.length c0_0, .int .i64 a0_1] 33 (0, 0)) (by (with_reducible repeat (first | refine blk_drewN ?_ _ | refine blk_drew ?_ | refine blk_alloc ?_ _)); exact BK265.out) hb); have n1_ := Aside0.mk (below_step (by repeat (first | (with_reducible first | exact HB.out | apply below_alloc | apply pw_below_drewN | apply below_drew1 | refine below_set ?_ GE265.out) | exact HB.out)) hb); clear BK265; clear HB; have BK265 := n0_; have HB := n1_; clear n0_ n1_; (try clear hb); (try clear hb2); (try clear hk); (try clear hi); have hcz47_0 : w46.cell? ⟨gb265, 0, none⟩ = some (.slice A0_0 l0_0.length c0_0) := (blk_cell BK265.out 0).trans rfl; have hcz47_1 : w46.cell? ⟨gb265, 1, none⟩ = some (.int .i64 a0_1) := (blk_cell BK265.out 1).trans rfl; have hfz47_0 := blk_frozen BK265.out 0; have hfz47_1 := blk_frozen BK265.out 1) | ((with_reducible refine gate_callee (f := 26) rfl ?_); refine goesL_ (some 10) rfl rfl Tryd.func26 (by kernel_rfl) rfl #[.agg #[.slice A0_0 l0_0.length c0_0, .int .i64 a0_1]] rfl (by (try simp only [List.map_toArray, List.map_cons, List.map_nil]); first | done | rfl | (simp only [List.length_drop, List.length_take]; rfl)) ?_; (with_reducible refine (familycheckref01_CopyRow.calls _ _ l0_0 a0_1 t268 t271 _ ?side1 ?side2 A9.out).mono ?_); (case side1 => repeat (first | exact (Kd.C_below HR0_0.out HB.out) | (with_reducible refine Kd.C_alloc ?_ _) | (with_reducible refine Kd.C_drewN ?_ _) | (with_reducible refine Kd.C_drew ?_))); (case side2 => exact HC0_0.out); rintro e w48 ⟨v269, rfl, ho0, hb⟩; refine ⟨_, rfl, ?_⟩; have n0_ := Aside0.mk (Kd.R_lower ho0 (below_size (by repeat (first | (with_reducible first | exact HB.out | apply below_alloc | apply pw_below_drewN | apply below_drew1 | refine below_set ?_ GE265.out) | exact HB.out)))); have n1_ := Aside0.mk (blk_below (g := gb265) (o := .cells #[.slice A0_0 l0_0.length c0_0, .int .i64 a0_1] 33 (0, 0)) (by (with_reducible repeat (first | refine blk_drewN ?_ _ | refine blk_drew ?_ | refine blk_alloc ?_ _)); exact BK265.out) hb); have n2_ := Aside0.mk (below_step (by repeat (first | (with_reducible first | exact HB.out | apply below_alloc | apply pw_below_drewN | apply below_drew1 | refine below_set ?_ GE265.out) | exact HB.out)) hb); clear BK265; clear HB; have HO270 := n0_; have BK265 := n1_; have HB := n2_; clear n0_ n1_ n2_; (try clear hb); (try clear hb2); (try clear hk); (try clear hi); (try clear ho0)) | ((with_reducible refine gate_dst (N := 3) rfl ?_); refine box_event ?hg (N := 3) ?hd (cs := #[.slice none 0 0, .int .i64 0]) (t := 33) ?hr ?_; (case hd => rfl); (case hg => rfl); (case hr => first | (go_simp; done) | (go_simp; rfl)); intro gb272 hg w49 hbox hb; have n0_ := Aside0.mk (Kd.R_below (by (with_reducible repeat (first | apply Kd.R_alloc | apply Kd.R_drewN | apply Kd.R_drew)); exact HO270.out) hb); have n1_ := Aside0.mk (blk_below (g := gb265) (o := .cells #[.slice A0_0 l0_0.length c0_0, .int .i64 a0_1] 33 (0, 0)) (by (with_reducible repeat (first | refine blk_drewN ?_ _ | refine blk_drew ?_ | refine blk_alloc ?_ _)); exact BK265.out) hb); have n2_ := Aside0.mk (below_step (by repeat (first | (with_reducible first | exact HB.out | apply below_alloc | apply pw_below_drewN | apply below_drew1 | refine below_set ?_ GE265.out) | exact HB.out)) hb); have n3_ := Aside0.mk (hbox); have n4_ := Aside0.mk ((by rw [hg]; exact (below_size (by repeat (first | (with_reducible first | exact HB.out | apply below_alloc | apply pw_below_drewN | apply below_drew1 | refine below_set ?_ GE265.out) | exact HB.out))) : w.heap.size ≤ gb272)); have n5_ := Aside0.mk ((by rw [hg]; exact (below_size (by repeat (first | (with_reducible first | exact HB.out | apply below_alloc | apply pw_below_drewN | apply below_drew1 | refine below_set ?_ GE265.out) | exact HB.out))) : w.heap.size ≤ gb272)); have n6_ := Aside0.mk ((by rw [hg]; exact Nat.ne_of_lt (blk_lt (g := gb265) (o := .cells #[.slice A0_0 l0_0.length c0_0, .int .i64 a0_1] 33 (0, 0)) (by (with_reducible repeat (first | refine blk_drewN ?_ _ | refine blk_drew ?_ | refine blk_alloc ?_ _)); exact BK265.out)) : gb265 ≠ gb272)); have n7_ := Aside0.mk ((by rw [hg]; exact Nat.ne_of_gt (blk_lt (g := gb265) (o := .cells #[.slice A0_0 l0_0.length c0_0, .int .i64 a0_1] 33 (0, 0)) (by (with_reducible repeat (first | refine blk_drewN ?_ _ | refine blk_drew ?_ | refine blk_alloc ?_ _)); exact BK265.out)) : gb272 ≠ gb265)); clear HO270; clear BK265; clear HB; have HO270 := n0_; have BK265 := n1_; have HB := n2_; have BK272 := n3_; have GW272 := n4_; have GE272 := n5_; have NB265_272 := n6_; have NB272_265 := n7_; clear n0_ n1_ n2_ n3_ n4_ n5_ n6_ n7_; clear hb hbox hg; obtain ⟨Ao50, co50, eo50⟩ := Kd.R_slice HO270.out; subst eo50; have hnb51 := NB272_265.out; have hnc51 := NB265_272.out; have hcz52_0 : w49.cell? ⟨gb272, 0, none⟩ = some (.slice none 0 0) := (blk_cell BK272.out 0).trans rfl; have hcz52_1 : w49.cell? ⟨gb272, 1, none⟩ = some (.int .i64 0) := (blk_cell BK272.out 1).trans rfl; have hfz52_0 := blk_frozen BK272.out 0; have hfz52_1 := blk_frozen BK272.out 1) | ((with_reducible refine gate_callee (f := 27) rfl ?_); refine goesL_ (some 12) rfl rfl Tryd.func27 (by kernel_rfl) rfl #[.agg #[.slice Ao50 t268.length co50, .int .i64 t271]] rfl (by (try simp only [List.map_toArray, List.map_cons, List.map_nil]); first | done | rfl | (simp only [List.length_drop, List.length_take]; rfl)) ?_; (with_reducible refine (linear_Tighten.calls k _ _ t268 t271 t273 t276 _ ?side1 ?side2 A10.out).mono ?_); (case side1 => refine (Kd.R_reads' (e := 3) (base := w.heap.size) (ok := fun k_ => True) (n := t268.length) (c := co50) ?_).2.2; exact (by (with_reducible repeat (first | apply Kd.R_alloc | apply Kd.R_drewN | apply Kd.R_drew)); exact (Kd.R_mono (Kd.R_far (p := ⟨gb272, 1, none⟩) (Kd.R_far (p := ⟨gb272, 0, none⟩) (Kd.R_types HO270.out BK272.out (by decide)) (fun _ hk => hk.2) (.slice Ao50 t268.length co50)) (fun _ hk => hk.2) (.int .i64 t271)) (fun _ h_ => h_.1)))); (case side2 => exact (Kd.R_reads' HO270.out).2.1); rintro e w53 ⟨v274, rfl, ho0, hb⟩; refine ⟨_, rfl, ?_⟩; have n0_ := Aside0.mk (Kd.R_elder' (by (with_reducible repeat (first | apply Kd.R_alloc | apply Kd.R_drewN | apply Kd.R_drew)); exact (Kd.R_mono (Kd.R_far (p := ⟨gb272, 1, none⟩) (Kd.R_far (p := ⟨gb272, 0, none⟩) (Kd.R_types HO270.out BK272.out (by decide)) (fun _ hk => hk.2) (.slice Ao50 t268.length co50)) (fun _ hk => hk.2) (.int .i64 t271)) (fun _ h_ => h_.1))) (Kd.R_base ho0) hb); have n1_ := Aside0.mk (Kd.R_lower (Kd.R_new' ho0 (Kd.R_lt (by (with_reducible repeat (first | apply Kd.R_alloc | apply Kd.R_drewN | apply Kd.R_drew)); exact (Kd.R_mono (Kd.R_far (p := ⟨gb272, 1, none⟩) (Kd.R_far (p := ⟨gb272, 0, none⟩) (Kd.R_types HO270.out BK272.out (by decide)) (fun _ hk => hk.2) (.slice Ao50 t268.length co50)) (fun _ hk => hk.2) (.int .i64 t271)) (fun _ h_ => h_.1))))) (below_size (by repeat (first | (with_reducible first | exact HB.out | apply below_alloc | apply pw_below_drewN | apply below_drew1 | refine below_set ?_ GE265.out | refine below_set ?_ GE272.out) | exact HB.out)))); have n2_ := Aside0.mk (blk_below (g := gb265) (o := .cells #[.slice A0_0 l0_0.length c0_0, .int .i64 a0_1] 33 (0, 0)) (by (with_reducible repeat (first | refine blk_drewN ?_ _ | refine blk_drew ?_ | refine blk_alloc ?_ _)); refine blk_far ?_ NB265_272.out _; (with_reducible repeat (first | refine blk_drewN ?_ _ | refine blk_drew ?_ | refine blk_alloc ?_ _)); refine blk_far ?_ NB265_272.out _; (with_reducible repeat (first | refine blk_drewN ?_ _ | refine blk_drew ?_ | refine blk_alloc ?_ _)); exact BK265.out) hb); have n3_ := Aside0.mk (blk_below (g := gb272) (o := .cells #[.slice Ao50 t268.length co50, .int .i64 t271] 33 (0, 0)) (by (with_reducible repeat (first | refine blk_drewN ?_ _ | refine blk_drew ?_ | refine blk_alloc ?_ _)); refine blk_put (cs := #[.slice Ao50 t268.length co50, .int .i64 0]) ?_ 1 _ rfl; (with_reducible repeat (first | refine blk_drewN ?_ _ | refine blk_drew ?_ | refine blk_alloc ?_ _)); refine blk_put (cs := #[.slice none 0 0, .int .i64 0]) ?_ 0 _ rfl; (with_reducible repeat (first | refine blk_drewN ?_ _ | refine blk_drew ?_ | refine blk_alloc ?_ _)); exact BK272.out) hb); have n4_ := Aside0.mk (below_step (by repeat (first | (with_reducible first | exact HB.out | apply below_alloc | apply pw_below_drewN | apply below_drew1 | refine below_set ?_ GE265.out | refine below_set ?_ GE272.out) | exact HB.out)) hb); clear HO270; clear BK265; clear BK272; clear HB; have HO270 := n0_; have HO275 := n1_; have BK265 := n2_; have BK272 := n3_; have HB := n4_; clear n0_ n1_ n2_ n3_ n4_; (try clear hb); (try clear hb2); (try clear hk); (try clear hi); (try clear ho0)) | ((with_reducible refine gate_dst (N := 4) rfl ?_); refine box_event ?hg (N := 4) ?hd (cs := #[.slice none 0 0, .int .i64 0]) (t := 33) ?hr ?_; (case hd => rfl); (case hg => rfl); (case hr => first | (go_simp; done) | (go_simp; rfl)); intro gb277 hg w54 hbox hb; have n0_ := Aside0.mk (Kd.R_below (by (with_reducible repeat (first | apply Kd.R_alloc | apply Kd.R_drewN | apply Kd.R_drew)); exact HO270.out) hb); have n1_ := Aside0.mk (Kd.R_below (by (with_reducible repeat (first | apply Kd.R_alloc | apply Kd.R_drewN | apply Kd.R_drew)); exact HO275.out) hb); have n2_ := Aside0.mk (blk_below (g := gb265) (o := .cells #[.slice A0_0 l0_0.length c0_0, .int .i64 a0_1] 33 (0, 0)) (by (with_reducible repeat (first | refine blk_drewN ?_ _ | refine blk_drew ?_ | refine blk_alloc ?_ _)); exact BK265.out) hb); have n3_ := Aside0.mk (blk_below (g := gb272) (o := .cells #[.slice Ao50 t268.length co50, .int .i64 t271] 33 (0, 0)) (by (with_reducible repeat (first | refine blk_drewN ?_ _ | refine blk_drew ?_ | refine blk_alloc ?_ _)); exact BK272.out) hb); have n4_ := Aside0.mk (below_step (by repeat (first | (with_reducible first | exact HB.out | apply below_alloc | apply pw_below_drewN | apply below_drew1 | refine below_set ?_ GE265.out | refine below_set ?_ GE272.out) | exact HB.out)) hb); have n5_ := Aside0.mk (hbox); have n6_ := Aside0.mk ((by rw [hg]; exact (below_size (by repeat (first | (with_reducible first | exact HB.out | apply below_alloc | apply pw_below_drewN | apply below_drew1 | refine below_set ?_ GE265.out | refine below_set ?_ GE272.out) | exact HB.out))) : w.heap.size ≤ gb277)); have n7_ := Aside0.mk ((by rw [hg]; exact (below_size (by repeat (first | (with_reducible first | exact HB.out | apply below_alloc | apply pw_below_drewN | apply below_drew1 | refine below_set ?_ GE265.out | refine below_set ?_ GE272.out) | exact HB.out))) : w.heap.size ≤ gb277)); have n8_ := Aside0.mk ((by rw [hg]; exact Nat.ne_of_lt (blk_lt (g := gb265) (o := .cells #[.slice A0_0 l0_0.length c0_0, .int .i64 a0_1] 33 (0, 0)) (by (with_reducible repeat (first | refine blk_drewN ?_ _ | refine blk_drew ?_ | refine blk_alloc ?_ _)); exact BK265.out)) : gb265 ≠ gb277)); have n9_ := Aside0.mk ((by rw [hg]; exact Nat.ne_of_gt (blk_lt (g := gb265) (o := .cells #[.slice A0_0 l0_0.length c0_0, .int .i64 a0_1] 33 (0, 0)) (by (with_reducible repeat (first | refine blk_drewN ?_ _ | refine blk_drew ?_ | refine blk_alloc ?_ _)); exact BK265.out)) : gb277 ≠ gb265)); have n10_ := Aside0.mk ((by rw [hg]; exact Nat.ne_of_lt (blk_lt (g := gb272) (o := .cells #[.slice Ao50 t268.length co50, .int .i64 t271] 33 (0, 0)) (by (with_reducible repeat (first | refine blk_drewN ?_ _ | refine blk_drew ?_ | refine blk_alloc ?_ _)); exact BK272.out)) : gb272 ≠ gb277)); have n11_ := Aside0.mk ((by rw [hg]; exact Nat.ne_of_gt (blk_lt (g := gb272) (o := .cells #[.slice Ao50 t268.length co50, .int .i64 t271] 33 (0, 0)) (by (with_reducible repeat (first | refine blk_drewN ?_ _ | refine blk_drew ?_ | refine blk_alloc ?_ _)); exact BK272.out)) : gb277 ≠ gb272)); clear HO270; clear HO275; clear BK265; clear BK272; clear HB; have HO270 := n0_; have HO275 := n1_; have BK265 := n2_; have BK272 := n3_; have HB := n4_; have BK277 := n5_; have GW277 := n6_; have GE277 := n7_; have NB265_277 := n8_; have NB277_265 := n9_; have NB272_277 := n10_; have NB277_272 := n11_; clear n0_ n1_ n2_ n3_ n4_ n5_ n6_ n7_ n8_ n9_ n10_ n11_; clear hb hbox hg; obtain ⟨Ao55, co55, eo55⟩ := Kd.R_slice HO275.out; subst eo55; have hnb56 := NB277_265.out; have hnc56 := NB265_277.out; have hnb57 := NB277_272.out; have hnc57 := NB272_277.out; have hcz58_0 : w54.cell? ⟨gb277, 0, none⟩ = some (.slice none 0 0) := (blk_cell BK277.out 0).trans rfl; have hcz58_1 : w54.cell? ⟨gb277, 1, none⟩ = some (.int .i64 0) := (blk_cell BK277.out 1).trans rfl; have hfz58_0 := blk_frozen BK277.out 0; have hfz58_1 := blk_frozen BK277.out 1))
        have n0_ : Aside0 (Kd.R (Kd.int .i64) 3 ((w54.setCell ⟨gb277, 0, none⟩ (.slice Ao55 t273.length co55)).setCell ⟨gb277, 1, none⟩ (.int .i64 t276)) w.heap.size (fun k_ => some k_ ≠ (.slice Ao55 t273.length co55 : Value).ownBlock) (.slice Ao50 t268.length co50) t268) := ⟨by (with_reducible repeat (first | apply Kd.R_alloc | apply Kd.R_drewN | apply Kd.R_drew)); exact Kd.R_mono (Kd.R_far (p := ⟨gb277, 1, none⟩) (Kd.R_far (p := ⟨gb277, 0, none⟩) (Kd.R_types HO270.out BK277.out (by decide)) (fun _ hk => hk.2) (.slice Ao55 t273.length co55)) (fun _ hk => hk.2) (.int .i64 t276)) (fun _ hk => hk.1.2)⟩
        have n1_ : Aside0 (Kd.R (Kd.int .i64) 3 ((w54.setCell ⟨gb277, 0, none⟩ (.slice Ao55 t273.length co55)).setCell ⟨gb277, 1, none⟩ (.int .i64 t276)) w.heap.size (fun k_ => some k_ ≠ (.slice Ao50 t268.length co50 : Value).ownBlock) (.slice Ao55 t273.length co55) t273) := ⟨by (with_reducible repeat (first | apply Kd.R_alloc | apply Kd.R_drewN | apply Kd.R_drew)); exact Kd.R_mono (Kd.R_far (p := ⟨gb277, 1, none⟩) (Kd.R_far (p := ⟨gb277, 0, none⟩) (Kd.R_types HO275.out BK277.out (by decide)) (fun _ hk => hk.2) (.slice Ao55 t273.length co55)) (fun _ hk => hk.2) (.int .i64 t276)) (fun _ hk => hk.1.2)⟩
        have n2_ : Aside0 (((w54.setCell ⟨gb277, 0, none⟩ (.slice Ao55 t273.length co55)).setCell ⟨gb277, 1, none⟩ (.int .i64 t276)).heap[gb265]? = some (.cells #[.slice A0_0 l0_0.length c0_0, .int .i64 a0_1] 33 (0, 0))) := ⟨by (with_reducible repeat (first | refine blk_drewN ?_ _ | refine blk_drew ?_ | refine blk_alloc ?_ _)); refine blk_far ?_ NB265_277.out _; (with_reducible repeat (first | refine blk_drewN ?_ _ | refine blk_drew ?_ | refine blk_alloc ?_ _)); refine blk_far ?_ NB265_277.out _; (with_reducible repeat (first | refine blk_drewN ?_ _ | refine blk_drew ?_ | refine blk_alloc ?_ _)); exact BK265.out⟩
        have n3_ : Aside0 (((w54.setCell ⟨gb277, 0, none⟩ (.slice Ao55 t273.length co55)).setCell ⟨gb277, 1, none⟩ (.int .i64 t276)).heap[gb272]? = some (.cells #[.slice Ao50 t268.length co50, .int .i64 t271] 33 (0, 0))) := ⟨by (with_reducible repeat (first | refine blk_drewN ?_ _ | refine blk_drew ?_ | refine blk_alloc ?_ _)); refine blk_far ?_ NB272_277.out _; (with_reducible repeat (first | refine blk_drewN ?_ _ | refine blk_drew ?_ | refine blk_alloc ?_ _)); refine blk_far ?_ NB272_277.out _; (with_reducible repeat (first | refine blk_drewN ?_ _ | refine blk_drew ?_ | refine blk_alloc ?_ _)); exact BK272.out⟩
        have n4_ : Aside0 (((w54.setCell ⟨gb277, 0, none⟩ (.slice Ao55 t273.length co55)).setCell ⟨gb277, 1, none⟩ (.int .i64 t276)).heap[gb277]? = some (.cells #[.slice Ao55 t273.length co55, .int .i64 t276] 33 (0, 0))) := ⟨by (with_reducible repeat (first | refine blk_drewN ?_ _ | refine blk_drew ?_ | refine blk_alloc ?_ _)); refine blk_put (cs := #[.slice Ao55 t273.length co55, .int .i64 0]) ?_ 1 _ rfl; (with_reducible repeat (first | refine blk_drewN ?_ _ | refine blk_drew ?_ | refine blk_alloc ?_ _)); refine blk_put (cs := #[.slice none 0 0, .int .i64 0]) ?_ 0 _ rfl; (with_reducible repeat (first | refine blk_drewN ?_ _ | refine blk_drew ?_ | refine blk_alloc ?_ _)); exact BK277.out⟩
        have n5_ : Aside0 (Below w.heap.size w ((w54.setCell ⟨gb277, 0, none⟩ (.slice Ao55 t273.length co55)).setCell ⟨gb277, 1, none⟩ (.int .i64 t276))) := ⟨by repeat (first | (with_reducible first | exact HB.out | apply below_alloc | apply pw_below_drewN | apply below_drew1 | refine below_set ?_ GE265.out | refine below_set ?_ GE272.out | refine below_set ?_ GE277.out) | exact HB.out)⟩
        (try clear HO270)
        (try clear HO275)
        (try clear BK265)
        (try clear BK272)
        (try clear BK277)
        (try clear HB)
        generalize ((w54.setCell ⟨gb277, 0, none⟩ (.slice Ao55 t273.length co55)).setCell ⟨gb277, 1, none⟩ (.int .i64 t276)) = w59 at n0_ n1_ n2_ n3_ n4_ n5_ ⊢
        have HO270 := n0_
        have HO275 := n1_
        have BK265 := n2_
        have BK272 := n3_
        have BK277 := n4_
        have HB := n5_
        clear n0_ n1_ n2_ n3_ n4_ n5_
        have n0_ := Aside0.mk (Kd.R_drew HO270.out)
        have n1_ := Aside0.mk (Kd.R_drew HO275.out)
        have n2_ := Aside0.mk (blk_drew BK265.out)
        have n3_ := Aside0.mk (blk_drew BK272.out)
        have n4_ := Aside0.mk (blk_drew BK277.out)
        have n5_ := Aside0.mk (below_drew1 HB.out)
        clear HO270
        clear HO275
        clear BK265
        clear BK272
        clear BK277
        clear HB
        have HO270 := n0_
        have HO275 := n1_
        have BK265 := n2_
        have BK272 := n3_
        have BK277 := n4_
        have HB := n5_
        clear n0_ n1_ n2_ n3_ n4_ n5_
        refine start_ (n := 5) (S := fun w' => w'.cell? ⟨gb277, 0, none⟩ = some (.slice Ao55 t273.length co55) ∧ w'.cell? ⟨gb277, 1, none⟩ = some (.int .i64 t276) ∧ w'.cell? ⟨gb265, 0, none⟩ = some (.slice A0_0 l0_0.length c0_0) ∧ w'.cell? ⟨gb265, 1, none⟩ = some (.int .i64 a0_1)) (ds := []) #[false, false, false, false, false] (by kernel_rfl) rfl rfl ⟨(blk_cell BK277.out 0).trans rfl, (blk_cell BK277.out 1).trans rfl, (blk_cell BK265.out 0).trans rfl, (blk_cell BK265.out 1).trans rfl⟩ (fun hHeld => ?_)
        generalize w59.drew = w60 at HO270 HO275 BK265 BK272 BK277 HB hHeld ⊢
        refine take_ (i := 0) (N := some 13) (v := ?_) (a' := ?_) #[true, false, false, false, false] rfl rfl (by kernel_rfl) (fun _ _ _ h => h) (Or.inl ⟨by rfl, ?_⟩) hHeld ?_ ?_
        rotate_left
        · rintro w' ⟨s0, s1, s2, s3⟩
          go_simp
          with_reducible rfl
        rotate_left
        · simp only [Act.put, List.setIfInBounds_toArray, List.set_cons_zero, List.set_cons_succ, i64_w, i32_w]
          rfl
        refine take_ (i := 1) (N := some 14) (v := ?_) (a' := ?_) #[true, true, false, false, false] rfl rfl (by kernel_rfl) (fun _ _ _ h => h) (Or.inl ⟨by rfl, ?_⟩) hHeld ?_ ?_
        rotate_left
        · rintro w' ⟨s0, s1, s2, s3⟩
          go_simp
          with_reducible rfl
        rotate_left
        · simp only [Act.put, List.setIfInBounds_toArray, List.set_cons_zero, List.set_cons_succ, i64_w, i32_w]
          rfl
        refine one_ (i := 2) (N := some 15) #[true, true, true, false, false] rfl rfl (by kernel_rfl) (by decide) (fun K hK => ?_)
        refine goes_ Tryd.func29 (by kernel_rfl) rfl #[.agg #[.slice A0_0 l0_0.length c0_0, .int .i64 a0_1]] (by rfl) rfl rfl (by (try simp only [List.map_toArray, List.map_cons, List.map_nil]); first | done | rfl | (simp only [List.length_drop, List.length_take]; rfl)) ?_
        with_reducible refine (familycheckref01_Tighten.calls k _ _ l0_0 a0_1 t278 t281 _ ?side1 ?side2 A11.out).mono ?_
        (case side1 => repeat (first | exact (Kd.C_below HR0_0.out HB.out) | (with_reducible refine Kd.C_alloc ?_ _) | (with_reducible refine Kd.C_drewN ?_ _) | (with_reducible refine Kd.C_drew ?_)))
        (case side2 => exact HC0_0.out)
        rintro e w61 ⟨v279, rfl, ho0, hb⟩
        refine ⟨_, rfl, ?_⟩
        have n0_ := Aside0.mk (Kd.R_elder' (by (with_reducible repeat (first | apply Kd.R_alloc | apply Kd.R_drewN | apply Kd.R_drew)); exact HO270.out) (Kd.R_base ho0) hb)
        have n1_ := Aside0.mk (Kd.R_elder' (by (with_reducible repeat (first | apply Kd.R_alloc | apply Kd.R_drewN | apply Kd.R_drew)); exact HO275.out) (Kd.R_base ho0) hb)
        have n2_ := Aside0.mk (Kd.R_lower (Kd.R_new' (Kd.R_new' ho0 (Kd.R_lt (by (with_reducible repeat (first | apply Kd.R_alloc | apply Kd.R_drewN | apply Kd.R_drew)); exact HO270.out))) (Kd.R_lt (by (with_reducible repeat (first | apply Kd.R_alloc | apply Kd.R_drewN | apply Kd.R_drew)); exact HO275.out))) (below_size (by repeat (first | (with_reducible first | exact HB.out | apply below_alloc | apply pw_below_drewN | apply below_drew1 | refine below_set ?_ GE265.out | refine below_set ?_ GE272.out | refine below_set ?_ GE277.out) | exact HB.out))))
        have n3_ := Aside0.mk (blk_below (g := gb265) (o := .cells #[.slice A0_0 l0_0.length c0_0, .int .i64 a0_1] 33 (0, 0)) (by (with_reducible repeat (first | refine blk_drewN ?_ _ | refine blk_drew ?_ | refine blk_alloc ?_ _)); exact BK265.out) hb)
        have n4_ := Aside0.mk (blk_below (g := gb272) (o := .cells #[.slice Ao50 t268.length co50, .int .i64 t271] 33 (0, 0)) (by (with_reducible repeat (first | refine blk_drewN ?_ _ | refine blk_drew ?_ | refine blk_alloc ?_ _)); exact BK272.out) hb)
        have n5_ := Aside0.mk (blk_below (g := gb277) (o := .cells #[.slice Ao55 t273.length co55, .int .i64 t276] 33 (0, 0)) (by (with_reducible repeat (first | refine blk_drewN ?_ _ | refine blk_drew ?_ | refine blk_alloc ?_ _)); exact BK277.out) hb)
        have n6_ := Aside0.mk (below_step (by repeat (first | (with_reducible first | exact HB.out | apply below_alloc | apply pw_below_drewN | apply below_drew1 | refine below_set ?_ GE265.out | refine below_set ?_ GE272.out | refine below_set ?_ GE277.out) | exact HB.out)) hb)
        clear HO270
        clear HO275
        clear BK265
        clear BK272
        clear BK277
        clear HB
        have HO270 := n0_
        have HO275 := n1_
        have HO280 := n2_
        have BK265 := n3_
        have BK272 := n4_
        have BK277 := n5_
        have HB := n6_
        clear n0_ n1_ n2_ n3_ n4_ n5_ n6_
        (try clear hb)
        (try clear hb2)
        (try clear hk)
        (try clear hi)
        (try clear ho0)
        obtain ⟨Ao62, co62, eo62⟩ := Kd.R_slice HO280.out
        (first | subst eo62 | (injection eo62 with f1_ f2_ f3_; have f4_ := f1_.symm; have f5_ := f3_.symm; clear f1_ f2_ f3_; subst f4_; subst f5_))
        refine hK.out _ _ ⟨(blk_cell BK277.out 0).trans rfl, (blk_cell BK277.out 1).trans rfl, (blk_cell BK265.out 0).trans rfl, (blk_cell BK265.out 1).trans rfl⟩ (fun hHeld => ?_)
        clear hK K
        refine norm_ (a' := ?_) ?_ ?_
        rotate_left
        · show Act.put _ (some 15) _ = _
          simp only [Act.put, List.setIfInBounds_toArray, List.set_cons_zero, List.set_cons_succ, i64_w, i32_w]
          rfl
        refine one_ (i := 3) (N := some 16) #[true, true, true, true, false] rfl rfl (by kernel_rfl) (by decide) (fun K hK => ?_)
        refine goes_ Tryd.func28 (by kernel_rfl) rfl #[.agg #[.slice Ao55 t273.length co55, .int .i64 t276], .agg #[.slice Ao62 t278.length co62, .int .i64 t281]] (by rfl) rfl rfl (by (try simp only [List.map_toArray, List.map_cons, List.map_nil]); first | done | rfl | (simp only [List.length_drop, List.length_take]; rfl)) ?_
        with_reducible refine (familycheckref01_SameRow.calls k _ _ t273 t276 _ _ t278 t281 true _ ?side1 ?side2 ?side3 ?side4 A12.out).mono ?_
        (case side1 => repeat (first | exact (Kd.R_reads' HO275.out).2.2 | (with_reducible refine Kd.C_alloc ?_ _) | (with_reducible refine Kd.C_drewN ?_ _) | (with_reducible refine Kd.C_drew ?_)))
        (case side2 => exact (Kd.R_reads' HO275.out).2.1)
        (case side3 => repeat (first | exact (Kd.R_reads' HO280.out).2.2 | (with_reducible refine Kd.C_alloc ?_ _) | (with_reducible refine Kd.C_drewN ?_ _) | (with_reducible refine Kd.C_drew ?_)))
        (case side4 => exact (Kd.R_reads' HO280.out).2.1)
        rintro e w63 ⟨rfl, hb⟩
        refine ⟨_, rfl, ?_⟩
        have n0_ := Aside0.mk (Kd.R_below (by (with_reducible repeat (first | apply Kd.R_alloc | apply Kd.R_drewN | apply Kd.R_drew)); exact HO270.out) hb)
        have n1_ := Aside0.mk (Kd.R_below (by (with_reducible repeat (first | apply Kd.R_alloc | apply Kd.R_drewN | apply Kd.R_drew)); exact HO275.out) hb)
        have n2_ := Aside0.mk (Kd.R_below (by (with_reducible repeat (first | apply Kd.R_alloc | apply Kd.R_drewN | apply Kd.R_drew)); exact HO280.out) hb)
        have n3_ := Aside0.mk (blk_below (g := gb265) (o := .cells #[.slice A0_0 l0_0.length c0_0, .int .i64 a0_1] 33 (0, 0)) (by (with_reducible repeat (first | refine blk_drewN ?_ _ | refine blk_drew ?_ | refine blk_alloc ?_ _)); exact BK265.out) hb)
        have n4_ := Aside0.mk (blk_below (g := gb272) (o := .cells #[.slice Ao50 t268.length co50, .int .i64 t271] 33 (0, 0)) (by (with_reducible repeat (first | refine blk_drewN ?_ _ | refine blk_drew ?_ | refine blk_alloc ?_ _)); exact BK272.out) hb)
        have n5_ := Aside0.mk (blk_below (g := gb277) (o := .cells #[.slice Ao55 t273.length co55, .int .i64 t276] 33 (0, 0)) (by (with_reducible repeat (first | refine blk_drewN ?_ _ | refine blk_drew ?_ | refine blk_alloc ?_ _)); exact BK277.out) hb)
        have n6_ := Aside0.mk (below_step (by repeat (first | (with_reducible first | exact HB.out | apply below_alloc | apply pw_below_drewN | apply below_drew1 | refine below_set ?_ GE265.out | refine below_set ?_ GE272.out | refine below_set ?_ GE277.out) | exact HB.out)) hb)
        clear HO270
        clear HO275
        clear HO280
        clear BK265
        clear BK272
        clear BK277
        clear HB
        have HO270 := n0_
        have HO275 := n1_
        have HO280 := n2_
        have BK265 := n3_
        have BK272 := n4_
        have BK277 := n5_
        have HB := n6_
        clear n0_ n1_ n2_ n3_ n4_ n5_ n6_
        (try clear hb)
        (try clear hb2)
        (try clear hk)
        (try clear hi)
        refine hK.out _ _ ⟨(blk_cell BK277.out 0).trans rfl, (blk_cell BK277.out 1).trans rfl, (blk_cell BK265.out 0).trans rfl, (blk_cell BK265.out 1).trans rfl⟩ (fun hHeld => ?_)
        clear hK K
        refine norm_ (a' := ?_) ?_ ?_
        rotate_left
        · show Act.put _ (some 16) _ = _
          simp only [Act.put, List.setIfInBounds_toArray, List.set_cons_zero, List.set_cons_succ, i64_w, i32_w]
          rfl
        refine pure_ (i := 4) (N := some 5) (v := ?_) (a' := ?_) #[true, true, true, true, true] rfl rfl (by kernel_rfl) (fun _ _ _ h => h) (Or.inl ⟨by rfl, ?_⟩) ?_ ?_
        rotate_left
        · intro w'
          go_simp
          with_reducible rfl
        rotate_left
        · simp only [Act.put, List.setIfInBounds_toArray, List.set_cons_zero, List.set_cons_succ, i64_w, i32_w]
          rfl
        refine done_ (by kernel_rfl) ?_
        have hcz64_0 : w63.cell? ⟨gb277, 0, none⟩ = some (.slice Ao55 t273.length co55) := (blk_cell BK277.out 0).trans rfl
        have hcz64_1 : w63.cell? ⟨gb277, 1, none⟩ = some (.int .i64 t276) := (blk_cell BK277.out 1).trans rfl
        have hfz64_0 := blk_frozen BK277.out 0
        have hfz64_1 := blk_frozen BK277.out 1
        try go_wp2_with (first | ((with_reducible refine gate_callee (f := 30) rfl ?_); refine goesL_ (some 19) rfl rfl Tryd.func30 (by kernel_rfl) rfl #[.slice Ao55 t273.length co55] rfl (by (try simp only [List.map_toArray, List.map_cons, List.map_nil]); first | done | rfl | (simp only [List.length_drop, List.length_take]; rfl)) ?_; (with_reducible refine (familychecklaw01_spoil.calls k (fun k_ => some k_ = (.slice Ao55 t273.length co55 : Value).ownBlock) (.slice Ao55 t273.length co55) t273 t283 w _ ?side1 ?side2 A13.out).mono ?_); (case side1 => repeat (first | (with_reducible first | exact HB.out | apply below_alloc | apply pw_below_drewN | apply below_drew1 | refine below_set ?_ GE265.out | refine below_set ?_ GE272.out | refine below_set ?_ GE277.out) | exact HB.out)); (case side2 => exact Kd.R_tight rfl HO275.out); rintro e w65 ⟨rfl, hy0, hb, hkp⟩; refine ⟨_, rfl, ?_⟩; have n0_ := Aside0.mk (blk_kept (by (with_reducible repeat (first | refine blk_drewN ?_ _ | refine blk_drew ?_ | refine blk_alloc ?_ _)); exact BK265.out) hkp (fun hs_ => (fun e_ => (Kd.R_ne HO275.out BK265.out (by decide)) e_) hs_)); have n1_ := Aside0.mk (Kd.R_mono (ok' := fun k_ => some k_ ≠ (.slice Ao55 t273.length co55 : Value).ownBlock ∧ some k_ ≠ (.slice Ao62 t278.length co62 : Value).ownBlock) (Kd.R_keptB (HO270.out) hkp (fun k_ hk_ hs_ => (hk_.1) hs_)) (fun k_ hk_ => ⟨hk_.1.1, hk_.1.2⟩)); have n2_ := Aside0.mk (blk_kept (by (with_reducible repeat (first | refine blk_drewN ?_ _ | refine blk_drew ?_ | refine blk_alloc ?_ _)); exact BK272.out) hkp (fun hs_ => (fun e_ => (Kd.R_ne HO275.out BK272.out (by decide)) e_) hs_)); have n3_ := Aside0.mk (Kd.R_reok rfl hy0 (fun k_ e_ => HO275.out.1 k_ e_)); have n4_ := Aside0.mk (blk_kept (by (with_reducible repeat (first | refine blk_drewN ?_ _ | refine blk_drew ?_ | refine blk_alloc ?_ _)); exact BK277.out) hkp (fun hs_ => (fun e_ => (Kd.R_ne HO275.out BK277.out (by decide)) e_) hs_)); have n5_ := Aside0.mk (Kd.R_mono (ok' := fun k_ => some k_ ≠ (.slice Ao50 t268.length co50 : Value).ownBlock ∧ some k_ ≠ (.slice Ao55 t273.length co55 : Value).ownBlock) (Kd.R_keptB (HO280.out) hkp (fun k_ hk_ hs_ => (hk_.2) hs_)) (fun k_ hk_ => ⟨hk_.1.1.2, hk_.1.2⟩)); have n6_ := Aside0.mk (hb); clear BK265; clear HO270; clear BK272; clear HO275; clear BK277; clear HO280; clear HB; have BK265 := n0_; have HO270 := n1_; have BK272 := n2_; have HO275 := n3_; have BK277 := n4_; have HO280 := n5_; have HB := n6_; clear n0_ n1_ n2_ n3_ n4_ n5_ n6_; (try clear hb); (try clear hkp); (try clear hy0); have hcz66_0 : w65.cell? ⟨gb272, 0, none⟩ = some (.slice Ao50 t268.length co50) := (blk_cell BK272.out 0).trans rfl; have hcz66_1 : w65.cell? ⟨gb272, 1, none⟩ = some (.int .i64 t271) := (blk_cell BK272.out 1).trans rfl; have hfz66_0 := blk_frozen BK272.out 0; have hfz66_1 := blk_frozen BK272.out 1; have hcz67_0 : w65.cell? ⟨gb265, 0, none⟩ = some (.slice A0_0 l0_0.length c0_0) := (blk_cell BK265.out 0).trans rfl; have hcz67_1 : w65.cell? ⟨gb265, 1, none⟩ = some (.int .i64 a0_1) := (blk_cell BK265.out 1).trans rfl; have hfz67_0 := blk_frozen BK265.out 0; have hfz67_1 := blk_frozen BK265.out 1) | (go_at_call 28; (with_reducible refine (familycheckref01_SameRow.calls k _ _ t268 t271 _ _ l0_0 a0_1 false _ ?side1 ?side2 ?side3 ?side4 A15.out).mono ?_); (case side1 => repeat (first | exact (Kd.R_reads' HO270.out).2.2 | (with_reducible refine Kd.C_alloc ?_ _) | (with_reducible refine Kd.C_drewN ?_ _) | (with_reducible refine Kd.C_drew ?_))); (case side2 => exact (Kd.R_reads' HO270.out).2.1); (case side3 => repeat (first | exact (Kd.C_below HR0_0.out HB.out) | (with_reducible refine Kd.C_alloc ?_ _) | (with_reducible refine Kd.C_drewN ?_ _) | (with_reducible refine Kd.C_drew ?_))); (case side4 => exact HC0_0.out); rintro e w68 ⟨rfl, hb⟩; have n0_ := Aside0.mk (Kd.R_below (by (with_reducible repeat (first | apply Kd.R_alloc | apply Kd.R_drewN | apply Kd.R_drew)); exact HO270.out) hb); have n1_ := Aside0.mk (Kd.R_below (by (with_reducible repeat (first | apply Kd.R_alloc | apply Kd.R_drewN | apply Kd.R_drew)); exact HO275.out) hb); have n2_ := Aside0.mk (Kd.R_below (by (with_reducible repeat (first | apply Kd.R_alloc | apply Kd.R_drewN | apply Kd.R_drew)); exact HO280.out) hb); have n3_ := Aside0.mk (blk_below (g := gb265) (o := .cells #[.slice A0_0 l0_0.length c0_0, .int .i64 a0_1] 33 (0, 0)) (by (with_reducible repeat (first | refine blk_drewN ?_ _ | refine blk_drew ?_ | refine blk_alloc ?_ _)); exact BK265.out) hb); have n4_ := Aside0.mk (blk_below (g := gb272) (o := .cells #[.slice Ao50 t268.length co50, .int .i64 t271] 33 (0, 0)) (by (with_reducible repeat (first | refine blk_drewN ?_ _ | refine blk_drew ?_ | refine blk_alloc ?_ _)); exact BK272.out) hb); have n5_ := Aside0.mk (blk_below (g := gb277) (o := .cells #[.slice Ao55 t273.length co55, .int .i64 t276] 33 (0, 0)) (by (with_reducible repeat (first | refine blk_drewN ?_ _ | refine blk_drew ?_ | refine blk_alloc ?_ _)); exact BK277.out) hb); have n6_ := Aside0.mk (below_step (by repeat (first | (with_reducible first | exact HB.out | apply below_alloc | apply pw_below_drewN | apply below_drew1 | refine below_set ?_ GE265.out | refine below_set ?_ GE272.out | refine below_set ?_ GE277.out) | exact HB.out)) hb); clear HO270; clear HO275; clear HO280; clear BK265; clear BK272; clear BK277; clear HB; have HO270 := n0_; have HO275 := n1_; have HO280 := n2_; have BK265 := n3_; have BK272 := n4_; have BK277 := n5_; have HB := n6_; clear n0_ n1_ n2_ n3_ n4_ n5_ n6_; (try clear hb); (try clear hb2); (try clear hk); (try clear hi)))
        go_ret
        exact ⟨by first | rfl | (simp [errW_none, errW_some] <;> rfl) | (simp [*, errW_none, errW_some] <;> rfl), by repeat (first | (with_reducible first | exact HB.out | apply below_alloc | apply pw_below_drewN | apply below_drew1 | refine below_set ?_ GE265.out | refine below_set ?_ GE272.out | refine below_set ?_ GE277.out) | exact HB.out)⟩
    · replace c14 := Bool.eq_false_iff.mpr c14
      subst c14
      have H1 : (some false) = some r := by rw [if_neg (show ¬ (false = true) by decide)] at H; exact H
      clear H
      have H := H1
      clear H1
      obtain rfl := Option.some.inj H
      go_enter Tryd.func5, Tryd.ntmps5
      try go_wp2_with (first | ((with_reducible refine gate_dst (N := 1) rfl ?_); refine box_event ?hg (N := 1) ?hd (cs := #[.slice A0_0 l0_0.length c0_0, .int .i64 a0_1]) (t := 33) ?hr ?_; (case hd => rfl); (case hg => rfl); (case hr => first | (go_simp; done) | (go_simp; rfl)); intro gb265 hg w69 hbox hb; have n0_ := Aside0.mk (below_step (by repeat (first | (with_reducible first | exact HB.out | apply below_alloc | apply pw_below_drewN | apply below_drew1) | exact HB.out)) hb); have n1_ := Aside0.mk (hbox); have n2_ := Aside0.mk ((by rw [hg]; exact (below_size (by repeat (first | (with_reducible first | exact HB.out | apply below_alloc | apply pw_below_drewN | apply below_drew1) | exact HB.out))) : w.heap.size ≤ gb265)); have n3_ := Aside0.mk ((by rw [hg]; exact (below_size (by repeat (first | (with_reducible first | exact HB.out | apply below_alloc | apply pw_below_drewN | apply below_drew1) | exact HB.out))) : w.heap.size ≤ gb265)); clear HB; have HB := n0_; have BK265 := n1_; have GW265 := n2_; have GE265 := n3_; clear n0_ n1_ n2_ n3_; clear hb hbox hg; have hcz70_0 : w69.cell? ⟨gb265, 0, none⟩ = some (.slice A0_0 l0_0.length c0_0) := (blk_cell BK265.out 0).trans rfl; have hcz70_1 : w69.cell? ⟨gb265, 1, none⟩ = some (.int .i64 a0_1) := (blk_cell BK265.out 1).trans rfl; have hfz70_0 := blk_frozen BK265.out 0; have hfz70_1 := blk_frozen BK265.out 1) | ((with_reducible refine gate_callee (f := 21) rfl ?_); refine goesL_ (some 7) rfl rfl Tryd.func21 (by kernel_rfl) rfl #[.agg #[.slice A0_0 l0_0.length c0_0, .int .i64 a0_1]] rfl (by (try simp only [List.map_toArray, List.map_cons, List.map_nil]); first | done | rfl | (simp only [List.length_drop, List.length_take]; rfl)) ?_; (with_reducible refine (familychecklaw01_long.calls _ _ l0_0 a0_1 false _ ?side1 ?side2 A2.out).mono ?_); (case side1 => repeat (first | exact (Kd.C_below HR0_0.out HB.out) | (with_reducible refine Kd.C_alloc ?_ _) | (with_reducible refine Kd.C_drewN ?_ _) | (with_reducible refine Kd.C_drew ?_))); (case side2 => exact HC0_0.out); rintro e w71 ⟨rfl, hb⟩; refine ⟨_, rfl, ?_⟩; have n0_ := Aside0.mk (blk_below (g := gb265) (o := .cells #[.slice A0_0 l0_0.length c0_0, .int .i64 a0_1] 33 (0, 0)) (by (with_reducible repeat (first | refine blk_drewN ?_ _ | refine blk_drew ?_ | refine blk_alloc ?_ _)); exact BK265.out) hb); have n1_ := Aside0.mk (below_step (by repeat (first | (with_reducible first | exact HB.out | apply below_alloc | apply pw_below_drewN | apply below_drew1 | refine below_set ?_ GE265.out) | exact HB.out)) hb); clear BK265; clear HB; have BK265 := n0_; have HB := n1_; clear n0_ n1_; (try clear hb); (try clear hb2); (try clear hk); (try clear hi); have hcz72_0 : w71.cell? ⟨gb265, 0, none⟩ = some (.slice A0_0 l0_0.length c0_0) := (blk_cell BK265.out 0).trans rfl; have hcz72_1 : w71.cell? ⟨gb265, 1, none⟩ = some (.int .i64 a0_1) := (blk_cell BK265.out 1).trans rfl; have hfz72_0 := blk_frozen BK265.out 0; have hfz72_1 := blk_frozen BK265.out 1) | ((with_reducible refine gate_callee (f := 26) rfl ?_); refine goesL_ (some 10) rfl rfl Tryd.func26 (by kernel_rfl) rfl #[.agg #[.slice A0_0 l0_0.length c0_0, .int .i64 a0_1]] rfl (by (try simp only [List.map_toArray, List.map_cons, List.map_nil]); first | done | rfl | (simp only [List.length_drop, List.length_take]; rfl)) ?_; (with_reducible refine (familycheckref01_CopyRow.calls _ _ l0_0 a0_1 t268 t271 _ ?side1 ?side2 A9.out).mono ?_); (case side1 => repeat (first | exact (Kd.C_below HR0_0.out HB.out) | (with_reducible refine Kd.C_alloc ?_ _) | (with_reducible refine Kd.C_drewN ?_ _) | (with_reducible refine Kd.C_drew ?_))); (case side2 => exact HC0_0.out); rintro e w73 ⟨v269, rfl, ho0, hb⟩; refine ⟨_, rfl, ?_⟩; have n0_ := Aside0.mk (Kd.R_lower ho0 (below_size (by repeat (first | (with_reducible first | exact HB.out | apply below_alloc | apply pw_below_drewN | apply below_drew1 | refine below_set ?_ GE265.out) | exact HB.out)))); have n1_ := Aside0.mk (blk_below (g := gb265) (o := .cells #[.slice A0_0 l0_0.length c0_0, .int .i64 a0_1] 33 (0, 0)) (by (with_reducible repeat (first | refine blk_drewN ?_ _ | refine blk_drew ?_ | refine blk_alloc ?_ _)); exact BK265.out) hb); have n2_ := Aside0.mk (below_step (by repeat (first | (with_reducible first | exact HB.out | apply below_alloc | apply pw_below_drewN | apply below_drew1 | refine below_set ?_ GE265.out) | exact HB.out)) hb); clear BK265; clear HB; have HO270 := n0_; have BK265 := n1_; have HB := n2_; clear n0_ n1_ n2_; (try clear hb); (try clear hb2); (try clear hk); (try clear hi); (try clear ho0)) | ((with_reducible refine gate_dst (N := 3) rfl ?_); refine box_event ?hg (N := 3) ?hd (cs := #[.slice none 0 0, .int .i64 0]) (t := 33) ?hr ?_; (case hd => rfl); (case hg => rfl); (case hr => first | (go_simp; done) | (go_simp; rfl)); intro gb272 hg w74 hbox hb; have n0_ := Aside0.mk (Kd.R_below (by (with_reducible repeat (first | apply Kd.R_alloc | apply Kd.R_drewN | apply Kd.R_drew)); exact HO270.out) hb); have n1_ := Aside0.mk (blk_below (g := gb265) (o := .cells #[.slice A0_0 l0_0.length c0_0, .int .i64 a0_1] 33 (0, 0)) (by (with_reducible repeat (first | refine blk_drewN ?_ _ | refine blk_drew ?_ | refine blk_alloc ?_ _)); exact BK265.out) hb); have n2_ := Aside0.mk (below_step (by repeat (first | (with_reducible first | exact HB.out | apply below_alloc | apply pw_below_drewN | apply below_drew1 | refine below_set ?_ GE265.out) | exact HB.out)) hb); have n3_ := Aside0.mk (hbox); have n4_ := Aside0.mk ((by rw [hg]; exact (below_size (by repeat (first | (with_reducible first | exact HB.out | apply below_alloc | apply pw_below_drewN | apply below_drew1 | refine below_set ?_ GE265.out) | exact HB.out))) : w.heap.size ≤ gb272)); have n5_ := Aside0.mk ((by rw [hg]; exact (below_size (by repeat (first | (with_reducible first | exact HB.out | apply below_alloc | apply pw_below_drewN | apply below_drew1 | refine below_set ?_ GE265.out) | exact HB.out))) : w.heap.size ≤ gb272)); have n6_ := Aside0.mk ((by rw [hg]; exact Nat.ne_of_lt (blk_lt (g := gb265) (o := .cells #[.slice A0_0 l0_0.length c0_0, .int .i64 a0_1] 33 (0, 0)) (by (with_reducible repeat (first | refine blk_drewN ?_ _ | refine blk_drew ?_ | refine blk_alloc ?_ _)); exact BK265.out)) : gb265 ≠ gb272)); have n7_ := Aside0.mk ((by rw [hg]; exact Nat.ne_of_gt (blk_lt (g := gb265) (o := .cells #[.slice A0_0 l0_0.length c0_0, .int .i64 a0_1] 33 (0, 0)) (by (with_reducible repeat (first | refine blk_drewN ?_ _ | refine blk_drew ?_ | refine blk_alloc ?_ _)); exact BK265.out)) : gb272 ≠ gb265)); clear HO270; clear BK265; clear HB; have HO270 := n0_; have BK265 := n1_; have HB := n2_; have BK272 := n3_; have GW272 := n4_; have GE272 := n5_; have NB265_272 := n6_; have NB272_265 := n7_; clear n0_ n1_ n2_ n3_ n4_ n5_ n6_ n7_; clear hb hbox hg; obtain ⟨Ao75, co75, eo75⟩ := Kd.R_slice HO270.out; subst eo75; have hnb76 := NB272_265.out; have hnc76 := NB265_272.out; have hcz77_0 : w74.cell? ⟨gb272, 0, none⟩ = some (.slice none 0 0) := (blk_cell BK272.out 0).trans rfl; have hcz77_1 : w74.cell? ⟨gb272, 1, none⟩ = some (.int .i64 0) := (blk_cell BK272.out 1).trans rfl; have hfz77_0 := blk_frozen BK272.out 0; have hfz77_1 := blk_frozen BK272.out 1) | ((with_reducible refine gate_callee (f := 27) rfl ?_); refine goesL_ (some 12) rfl rfl Tryd.func27 (by kernel_rfl) rfl #[.agg #[.slice Ao75 t268.length co75, .int .i64 t271]] rfl (by (try simp only [List.map_toArray, List.map_cons, List.map_nil]); first | done | rfl | (simp only [List.length_drop, List.length_take]; rfl)) ?_; (with_reducible refine (linear_Tighten.calls k _ _ t268 t271 t273 t276 _ ?side1 ?side2 A10.out).mono ?_); (case side1 => refine (Kd.R_reads' (e := 3) (base := w.heap.size) (ok := fun k_ => True) (n := t268.length) (c := co75) ?_).2.2; exact (by (with_reducible repeat (first | apply Kd.R_alloc | apply Kd.R_drewN | apply Kd.R_drew)); exact (Kd.R_mono (Kd.R_far (p := ⟨gb272, 1, none⟩) (Kd.R_far (p := ⟨gb272, 0, none⟩) (Kd.R_types HO270.out BK272.out (by decide)) (fun _ hk => hk.2) (.slice Ao75 t268.length co75)) (fun _ hk => hk.2) (.int .i64 t271)) (fun _ h_ => h_.1)))); (case side2 => exact (Kd.R_reads' HO270.out).2.1); rintro e w78 ⟨v274, rfl, ho0, hb⟩; refine ⟨_, rfl, ?_⟩; have n0_ := Aside0.mk (Kd.R_elder' (by (with_reducible repeat (first | apply Kd.R_alloc | apply Kd.R_drewN | apply Kd.R_drew)); exact (Kd.R_mono (Kd.R_far (p := ⟨gb272, 1, none⟩) (Kd.R_far (p := ⟨gb272, 0, none⟩) (Kd.R_types HO270.out BK272.out (by decide)) (fun _ hk => hk.2) (.slice Ao75 t268.length co75)) (fun _ hk => hk.2) (.int .i64 t271)) (fun _ h_ => h_.1))) (Kd.R_base ho0) hb); have n1_ := Aside0.mk (Kd.R_lower (Kd.R_new' ho0 (Kd.R_lt (by (with_reducible repeat (first | apply Kd.R_alloc | apply Kd.R_drewN | apply Kd.R_drew)); exact (Kd.R_mono (Kd.R_far (p := ⟨gb272, 1, none⟩) (Kd.R_far (p := ⟨gb272, 0, none⟩) (Kd.R_types HO270.out BK272.out (by decide)) (fun _ hk => hk.2) (.slice Ao75 t268.length co75)) (fun _ hk => hk.2) (.int .i64 t271)) (fun _ h_ => h_.1))))) (below_size (by repeat (first | (with_reducible first | exact HB.out | apply below_alloc | apply pw_below_drewN | apply below_drew1 | refine below_set ?_ GE265.out | refine below_set ?_ GE272.out) | exact HB.out)))); have n2_ := Aside0.mk (blk_below (g := gb265) (o := .cells #[.slice A0_0 l0_0.length c0_0, .int .i64 a0_1] 33 (0, 0)) (by (with_reducible repeat (first | refine blk_drewN ?_ _ | refine blk_drew ?_ | refine blk_alloc ?_ _)); refine blk_far ?_ NB265_272.out _; (with_reducible repeat (first | refine blk_drewN ?_ _ | refine blk_drew ?_ | refine blk_alloc ?_ _)); refine blk_far ?_ NB265_272.out _; (with_reducible repeat (first | refine blk_drewN ?_ _ | refine blk_drew ?_ | refine blk_alloc ?_ _)); exact BK265.out) hb); have n3_ := Aside0.mk (blk_below (g := gb272) (o := .cells #[.slice Ao75 t268.length co75, .int .i64 t271] 33 (0, 0)) (by (with_reducible repeat (first | refine blk_drewN ?_ _ | refine blk_drew ?_ | refine blk_alloc ?_ _)); refine blk_put (cs := #[.slice Ao75 t268.length co75, .int .i64 0]) ?_ 1 _ rfl; (with_reducible repeat (first | refine blk_drewN ?_ _ | refine blk_drew ?_ | refine blk_alloc ?_ _)); refine blk_put (cs := #[.slice none 0 0, .int .i64 0]) ?_ 0 _ rfl; (with_reducible repeat (first | refine blk_drewN ?_ _ | refine blk_drew ?_ | refine blk_alloc ?_ _)); exact BK272.out) hb); have n4_ := Aside0.mk (below_step (by repeat (first | (with_reducible first | exact HB.out | apply below_alloc | apply pw_below_drewN | apply below_drew1 | refine below_set ?_ GE265.out | refine below_set ?_ GE272.out) | exact HB.out)) hb); clear HO270; clear BK265; clear BK272; clear HB; have HO270 := n0_; have HO275 := n1_; have BK265 := n2_; have BK272 := n3_; have HB := n4_; clear n0_ n1_ n2_ n3_ n4_; (try clear hb); (try clear hb2); (try clear hk); (try clear hi); (try clear ho0)) | ((with_reducible refine gate_dst (N := 4) rfl ?_); refine box_event ?hg (N := 4) ?hd (cs := #[.slice none 0 0, .int .i64 0]) (t := 33) ?hr ?_; (case hd => rfl); (case hg => rfl); (case hr => first | (go_simp; done) | (go_simp; rfl)); intro gb277 hg w79 hbox hb; have n0_ := Aside0.mk (Kd.R_below (by (with_reducible repeat (first | apply Kd.R_alloc | apply Kd.R_drewN | apply Kd.R_drew)); exact HO270.out) hb); have n1_ := Aside0.mk (Kd.R_below (by (with_reducible repeat (first | apply Kd.R_alloc | apply Kd.R_drewN | apply Kd.R_drew)); exact HO275.out) hb); have n2_ := Aside0.mk (blk_below (g := gb265) (o := .cells #[.slice A0_0 l0_0.length c0_0, .int .i64 a0_1] 33 (0, 0)) (by (with_reducible repeat (first | refine blk_drewN ?_ _ | refine blk_drew ?_ | refine blk_alloc ?_ _)); exact BK265.out) hb); have n3_ := Aside0.mk (blk_below (g := gb272) (o := .cells #[.slice Ao75 t268.length co75, .int .i64 t271] 33 (0, 0)) (by (with_reducible repeat (first | refine blk_drewN ?_ _ | refine blk_drew ?_ | refine blk_alloc ?_ _)); exact BK272.out) hb); have n4_ := Aside0.mk (below_step (by repeat (first | (with_reducible first | exact HB.out | apply below_alloc | apply pw_below_drewN | apply below_drew1 | refine below_set ?_ GE265.out | refine below_set ?_ GE272.out) | exact HB.out)) hb); have n5_ := Aside0.mk (hbox); have n6_ := Aside0.mk ((by rw [hg]; exact (below_size (by repeat (first | (with_reducible first | exact HB.out | apply below_alloc | apply pw_below_drewN | apply below_drew1 | refine below_set ?_ GE265.out | refine below_set ?_ GE272.out) | exact HB.out))) : w.heap.size ≤ gb277)); have n7_ := Aside0.mk ((by rw [hg]; exact (below_size (by repeat (first | (with_reducible first | exact HB.out | apply below_alloc | apply pw_below_drewN | apply below_drew1 | refine below_set ?_ GE265.out | refine below_set ?_ GE272.out) | exact HB.out))) : w.heap.size ≤ gb277)); have n8_ := Aside0.mk ((by rw [hg]; exact Nat.ne_of_lt (blk_lt (g := gb265) (o := .cells #[.slice A0_0 l0_0.length c0_0, .int .i64 a0_1] 33 (0, 0)) (by (with_reducible repeat (first | refine blk_drewN ?_ _ | refine blk_drew ?_ | refine blk_alloc ?_ _)); exact BK265.out)) : gb265 ≠ gb277)); have n9_ := Aside0.mk ((by rw [hg]; exact Nat.ne_of_gt (blk_lt (g := gb265) (o := .cells #[.slice A0_0 l0_0.length c0_0, .int .i64 a0_1] 33 (0, 0)) (by (with_reducible repeat (first | refine blk_drewN ?_ _ | refine blk_drew ?_ | refine blk_alloc ?_ _)); exact BK265.out)) : gb277 ≠ gb265)); have n10_ := Aside0.mk ((by rw [hg]; exact Nat.ne_of_lt (blk_lt (g := gb272) (o := .cells #[.slice Ao75 t268.length co75, .int .i64 t271] 33 (0, 0)) (by (with_reducible repeat (first | refine blk_drewN ?_ _ | refine blk_drew ?_ | refine blk_alloc ?_ _)); exact BK272.out)) : gb272 ≠ gb277)); have n11_ := Aside0.mk ((by rw [hg]; exact Nat.ne_of_gt (blk_lt (g := gb272) (o := .cells #[.slice Ao75 t268.length co75, .int .i64 t271] 33 (0, 0)) (by (with_reducible repeat (first | refine blk_drewN ?_ _ | refine blk_drew ?_ | refine blk_alloc ?_ _)); exact BK272.out)) : gb277 ≠ gb272)); clear HO270; clear HO275; clear BK265; clear BK272; clear HB; have HO270 := n0_; have HO275 := n1_; have BK265 := n2_; have BK272 := n3_; have HB := n4_; have BK277 := n5_; have GW277 := n6_; have GE277 := n7_; have NB265_277 := n8_; have NB277_265 := n9_; have NB272_277 := n10_; have NB277_272 := n11_; clear n0_ n1_ n2_ n3_ n4_ n5_ n6_ n7_ n8_ n9_ n10_ n11_; clear hb hbox hg; obtain ⟨Ao80, co80, eo80⟩ := Kd.R_slice HO275.out; subst eo80; have hnb81 := NB277_265.out; have hnc81 := NB265_277.out; have hnb82 := NB277_272.out; have hnc82 := NB272_277.out; have hcz83_0 : w79.cell? ⟨gb277, 0, none⟩ = some (.slice none 0 0) := (blk_cell BK277.out 0).trans rfl; have hcz83_1 : w79.cell? ⟨gb277, 1, none⟩ = some (.int .i64 0) := (blk_cell BK277.out 1).trans rfl; have hfz83_0 := blk_frozen BK277.out 0; have hfz83_1 := blk_frozen BK277.out 1))
      have n0_ : Aside0 (Kd.R (Kd.int .i64) 3 ((w79.setCell ⟨gb277, 0, none⟩ (.slice Ao80 t273.length co80)).setCell ⟨gb277, 1, none⟩ (.int .i64 t276)) w.heap.size (fun k_ => some k_ ≠ (.slice Ao80 t273.length co80 : Value).ownBlock) (.slice Ao75 t268.length co75) t268) := ⟨by (with_reducible repeat (first | apply Kd.R_alloc | apply Kd.R_drewN | apply Kd.R_drew)); exact Kd.R_mono (Kd.R_far (p := ⟨gb277, 1, none⟩) (Kd.R_far (p := ⟨gb277, 0, none⟩) (Kd.R_types HO270.out BK277.out (by decide)) (fun _ hk => hk.2) (.slice Ao80 t273.length co80)) (fun _ hk => hk.2) (.int .i64 t276)) (fun _ hk => hk.1.2)⟩
      have n1_ : Aside0 (Kd.R (Kd.int .i64) 3 ((w79.setCell ⟨gb277, 0, none⟩ (.slice Ao80 t273.length co80)).setCell ⟨gb277, 1, none⟩ (.int .i64 t276)) w.heap.size (fun k_ => some k_ ≠ (.slice Ao75 t268.length co75 : Value).ownBlock) (.slice Ao80 t273.length co80) t273) := ⟨by (with_reducible repeat (first | apply Kd.R_alloc | apply Kd.R_drewN | apply Kd.R_drew)); exact Kd.R_mono (Kd.R_far (p := ⟨gb277, 1, none⟩) (Kd.R_far (p := ⟨gb277, 0, none⟩) (Kd.R_types HO275.out BK277.out (by decide)) (fun _ hk => hk.2) (.slice Ao80 t273.length co80)) (fun _ hk => hk.2) (.int .i64 t276)) (fun _ hk => hk.1.2)⟩
      have n2_ : Aside0 (((w79.setCell ⟨gb277, 0, none⟩ (.slice Ao80 t273.length co80)).setCell ⟨gb277, 1, none⟩ (.int .i64 t276)).heap[gb265]? = some (.cells #[.slice A0_0 l0_0.length c0_0, .int .i64 a0_1] 33 (0, 0))) := ⟨by (with_reducible repeat (first | refine blk_drewN ?_ _ | refine blk_drew ?_ | refine blk_alloc ?_ _)); refine blk_far ?_ NB265_277.out _; (with_reducible repeat (first | refine blk_drewN ?_ _ | refine blk_drew ?_ | refine blk_alloc ?_ _)); refine blk_far ?_ NB265_277.out _; (with_reducible repeat (first | refine blk_drewN ?_ _ | refine blk_drew ?_ | refine blk_alloc ?_ _)); exact BK265.out⟩
      have n3_ : Aside0 (((w79.setCell ⟨gb277, 0, none⟩ (.slice Ao80 t273.length co80)).setCell ⟨gb277, 1, none⟩ (.int .i64 t276)).heap[gb272]? = some (.cells #[.slice Ao75 t268.length co75, .int .i64 t271] 33 (0, 0))) := ⟨by (with_reducible repeat (first | refine blk_drewN ?_ _ | refine blk_drew ?_ | refine blk_alloc ?_ _)); refine blk_far ?_ NB272_277.out _; (with_reducible repeat (first | refine blk_drewN ?_ _ | refine blk_drew ?_ | refine blk_alloc ?_ _)); refine blk_far ?_ NB272_277.out _; (with_reducible repeat (first | refine blk_drewN ?_ _ | refine blk_drew ?_ | refine blk_alloc ?_ _)); exact BK272.out⟩
      have n4_ : Aside0 (((w79.setCell ⟨gb277, 0, none⟩ (.slice Ao80 t273.length co80)).setCell ⟨gb277, 1, none⟩ (.int .i64 t276)).heap[gb277]? = some (.cells #[.slice Ao80 t273.length co80, .int .i64 t276] 33 (0, 0))) := ⟨by (with_reducible repeat (first | refine blk_drewN ?_ _ | refine blk_drew ?_ | refine blk_alloc ?_ _)); refine blk_put (cs := #[.slice Ao80 t273.length co80, .int .i64 0]) ?_ 1 _ rfl; (with_reducible repeat (first | refine blk_drewN ?_ _ | refine blk_drew ?_ | refine blk_alloc ?_ _)); refine blk_put (cs := #[.slice none 0 0, .int .i64 0]) ?_ 0 _ rfl; (with_reducible repeat (first | refine blk_drewN ?_ _ | refine blk_drew ?_ | refine blk_alloc ?_ _)); exact BK277.out⟩
      have n5_ : Aside0 (Below w.heap.size w ((w79.setCell ⟨gb277, 0, none⟩ (.slice Ao80 t273.length co80)).setCell ⟨gb277, 1, none⟩ (.int .i64 t276))) := ⟨by repeat (first | (with_reducible first | exact HB.out | apply below_alloc | apply pw_below_drewN | apply below_drew1 | refine below_set ?_ GE265.out | refine below_set ?_ GE272.out | refine below_set ?_ GE277.out) | exact HB.out)⟩
      (try clear HO270)
      (try clear HO275)
      (try clear BK265)
      (try clear BK272)
      (try clear BK277)
      (try clear HB)
      generalize ((w79.setCell ⟨gb277, 0, none⟩ (.slice Ao80 t273.length co80)).setCell ⟨gb277, 1, none⟩ (.int .i64 t276)) = w84 at n0_ n1_ n2_ n3_ n4_ n5_ ⊢
      have HO270 := n0_
      have HO275 := n1_
      have BK265 := n2_
      have BK272 := n3_
      have BK277 := n4_
      have HB := n5_
      clear n0_ n1_ n2_ n3_ n4_ n5_
      have n0_ := Aside0.mk (Kd.R_drew HO270.out)
      have n1_ := Aside0.mk (Kd.R_drew HO275.out)
      have n2_ := Aside0.mk (blk_drew BK265.out)
      have n3_ := Aside0.mk (blk_drew BK272.out)
      have n4_ := Aside0.mk (blk_drew BK277.out)
      have n5_ := Aside0.mk (below_drew1 HB.out)
      clear HO270
      clear HO275
      clear BK265
      clear BK272
      clear BK277
      clear HB
      have HO270 := n0_
      have HO275 := n1_
      have BK265 := n2_
      have BK272 := n3_
      have BK277 := n4_
      have HB := n5_
      clear n0_ n1_ n2_ n3_ n4_ n5_
      refine start_ (n := 5) (S := fun w' => w'.cell? ⟨gb277, 0, none⟩ = some (.slice Ao80 t273.length co80) ∧ w'.cell? ⟨gb277, 1, none⟩ = some (.int .i64 t276) ∧ w'.cell? ⟨gb265, 0, none⟩ = some (.slice A0_0 l0_0.length c0_0) ∧ w'.cell? ⟨gb265, 1, none⟩ = some (.int .i64 a0_1)) (ds := []) #[false, false, false, false, false] (by kernel_rfl) rfl rfl ⟨(blk_cell BK277.out 0).trans rfl, (blk_cell BK277.out 1).trans rfl, (blk_cell BK265.out 0).trans rfl, (blk_cell BK265.out 1).trans rfl⟩ (fun hHeld => ?_)
      generalize w84.drew = w85 at HO270 HO275 BK265 BK272 BK277 HB hHeld ⊢
      refine take_ (i := 0) (N := some 13) (v := ?_) (a' := ?_) #[true, false, false, false, false] rfl rfl (by kernel_rfl) (fun _ _ _ h => h) (Or.inl ⟨by rfl, ?_⟩) hHeld ?_ ?_
      rotate_left
      · rintro w' ⟨s0, s1, s2, s3⟩
        go_simp
        with_reducible rfl
      rotate_left
      · simp only [Act.put, List.setIfInBounds_toArray, List.set_cons_zero, List.set_cons_succ, i64_w, i32_w]
        rfl
      refine take_ (i := 1) (N := some 14) (v := ?_) (a' := ?_) #[true, true, false, false, false] rfl rfl (by kernel_rfl) (fun _ _ _ h => h) (Or.inl ⟨by rfl, ?_⟩) hHeld ?_ ?_
      rotate_left
      · rintro w' ⟨s0, s1, s2, s3⟩
        go_simp
        with_reducible rfl
      rotate_left
      · simp only [Act.put, List.setIfInBounds_toArray, List.set_cons_zero, List.set_cons_succ, i64_w, i32_w]
        rfl
      refine one_ (i := 2) (N := some 15) #[true, true, true, false, false] rfl rfl (by kernel_rfl) (by decide) (fun K hK => ?_)
      refine goes_ Tryd.func29 (by kernel_rfl) rfl #[.agg #[.slice A0_0 l0_0.length c0_0, .int .i64 a0_1]] (by rfl) rfl rfl (by (try simp only [List.map_toArray, List.map_cons, List.map_nil]); first | done | rfl | (simp only [List.length_drop, List.length_take]; rfl)) ?_
      with_reducible refine (familycheckref01_Tighten.calls k _ _ l0_0 a0_1 t278 t281 _ ?side1 ?side2 A11.out).mono ?_
      (case side1 => repeat (first | exact (Kd.C_below HR0_0.out HB.out) | (with_reducible refine Kd.C_alloc ?_ _) | (with_reducible refine Kd.C_drewN ?_ _) | (with_reducible refine Kd.C_drew ?_)))
      (case side2 => exact HC0_0.out)
      rintro e w86 ⟨v279, rfl, ho0, hb⟩
      refine ⟨_, rfl, ?_⟩
      have n0_ := Aside0.mk (Kd.R_elder' (by (with_reducible repeat (first | apply Kd.R_alloc | apply Kd.R_drewN | apply Kd.R_drew)); exact HO270.out) (Kd.R_base ho0) hb)
      have n1_ := Aside0.mk (Kd.R_elder' (by (with_reducible repeat (first | apply Kd.R_alloc | apply Kd.R_drewN | apply Kd.R_drew)); exact HO275.out) (Kd.R_base ho0) hb)
      have n2_ := Aside0.mk (Kd.R_lower (Kd.R_new' (Kd.R_new' ho0 (Kd.R_lt (by (with_reducible repeat (first | apply Kd.R_alloc | apply Kd.R_drewN | apply Kd.R_drew)); exact HO270.out))) (Kd.R_lt (by (with_reducible repeat (first | apply Kd.R_alloc | apply Kd.R_drewN | apply Kd.R_drew)); exact HO275.out))) (below_size (by repeat (first | (with_reducible first | exact HB.out | apply below_alloc | apply pw_below_drewN | apply below_drew1 | refine below_set ?_ GE265.out | refine below_set ?_ GE272.out | refine below_set ?_ GE277.out) | exact HB.out))))
      have n3_ := Aside0.mk (blk_below (g := gb265) (o := .cells #[.slice A0_0 l0_0.length c0_0, .int .i64 a0_1] 33 (0, 0)) (by (with_reducible repeat (first | refine blk_drewN ?_ _ | refine blk_drew ?_ | refine blk_alloc ?_ _)); exact BK265.out) hb)
      have n4_ := Aside0.mk (blk_below (g := gb272) (o := .cells #[.slice Ao75 t268.length co75, .int .i64 t271] 33 (0, 0)) (by (with_reducible repeat (first | refine blk_drewN ?_ _ | refine blk_drew ?_ | refine blk_alloc ?_ _)); exact BK272.out) hb)
      have n5_ := Aside0.mk (blk_below (g := gb277) (o := .cells #[.slice Ao80 t273.length co80, .int .i64 t276] 33 (0, 0)) (by (with_reducible repeat (first | refine blk_drewN ?_ _ | refine blk_drew ?_ | refine blk_alloc ?_ _)); exact BK277.out) hb)
      have n6_ := Aside0.mk (below_step (by repeat (first | (with_reducible first | exact HB.out | apply below_alloc | apply pw_below_drewN | apply below_drew1 | refine below_set ?_ GE265.out | refine below_set ?_ GE272.out | refine below_set ?_ GE277.out) | exact HB.out)) hb)
      clear HO270
      clear HO275
      clear BK265
      clear BK272
      clear BK277
      clear HB
      have HO270 := n0_
      have HO275 := n1_
      have HO280 := n2_
      have BK265 := n3_
      have BK272 := n4_
      have BK277 := n5_
      have HB := n6_
      clear n0_ n1_ n2_ n3_ n4_ n5_ n6_
      (try clear hb)
      (try clear hb2)
      (try clear hk)
      (try clear hi)
      (try clear ho0)
      obtain ⟨Ao87, co87, eo87⟩ := Kd.R_slice HO280.out
      (first | subst eo87 | (injection eo87 with f1_ f2_ f3_; have f4_ := f1_.symm; have f5_ := f3_.symm; clear f1_ f2_ f3_; subst f4_; subst f5_))
      refine hK.out _ _ ⟨(blk_cell BK277.out 0).trans rfl, (blk_cell BK277.out 1).trans rfl, (blk_cell BK265.out 0).trans rfl, (blk_cell BK265.out 1).trans rfl⟩ (fun hHeld => ?_)
      clear hK K
      refine norm_ (a' := ?_) ?_ ?_
      rotate_left
      · show Act.put _ (some 15) _ = _
        simp only [Act.put, List.setIfInBounds_toArray, List.set_cons_zero, List.set_cons_succ, i64_w, i32_w]
        rfl
      refine one_ (i := 3) (N := some 16) #[true, true, true, true, false] rfl rfl (by kernel_rfl) (by decide) (fun K hK => ?_)
      refine goes_ Tryd.func28 (by kernel_rfl) rfl #[.agg #[.slice Ao80 t273.length co80, .int .i64 t276], .agg #[.slice Ao87 t278.length co87, .int .i64 t281]] (by rfl) rfl rfl (by (try simp only [List.map_toArray, List.map_cons, List.map_nil]); first | done | rfl | (simp only [List.length_drop, List.length_take]; rfl)) ?_
      with_reducible refine (familycheckref01_SameRow.calls k _ _ t273 t276 _ _ t278 t281 false _ ?side1 ?side2 ?side3 ?side4 A12.out).mono ?_
      (case side1 => repeat (first | exact (Kd.R_reads' HO275.out).2.2 | (with_reducible refine Kd.C_alloc ?_ _) | (with_reducible refine Kd.C_drewN ?_ _) | (with_reducible refine Kd.C_drew ?_)))
      (case side2 => exact (Kd.R_reads' HO275.out).2.1)
      (case side3 => repeat (first | exact (Kd.R_reads' HO280.out).2.2 | (with_reducible refine Kd.C_alloc ?_ _) | (with_reducible refine Kd.C_drewN ?_ _) | (with_reducible refine Kd.C_drew ?_)))
      (case side4 => exact (Kd.R_reads' HO280.out).2.1)
      rintro e w88 ⟨rfl, hb⟩
      refine ⟨_, rfl, ?_⟩
      have n0_ := Aside0.mk (Kd.R_below (by (with_reducible repeat (first | apply Kd.R_alloc | apply Kd.R_drewN | apply Kd.R_drew)); exact HO270.out) hb)
      have n1_ := Aside0.mk (Kd.R_below (by (with_reducible repeat (first | apply Kd.R_alloc | apply Kd.R_drewN | apply Kd.R_drew)); exact HO275.out) hb)
      have n2_ := Aside0.mk (Kd.R_below (by (with_reducible repeat (first | apply Kd.R_alloc | apply Kd.R_drewN | apply Kd.R_drew)); exact HO280.out) hb)
      have n3_ := Aside0.mk (blk_below (g := gb265) (o := .cells #[.slice A0_0 l0_0.length c0_0, .int .i64 a0_1] 33 (0, 0)) (by (with_reducible repeat (first | refine blk_drewN ?_ _ | refine blk_drew ?_ | refine blk_alloc ?_ _)); exact BK265.out) hb)
      have n4_ := Aside0.mk (blk_below (g := gb272) (o := .cells #[.slice Ao75 t268.length co75, .int .i64 t271] 33 (0, 0)) (by (with_reducible repeat (first | refine blk_drewN ?_ _ | refine blk_drew ?_ | refine blk_alloc ?_ _)); exact BK272.out) hb)
      have n5_ := Aside0.mk (blk_below (g := gb277) (o := .cells #[.slice Ao80 t273.length co80, .int .i64 t276] 33 (0, 0)) (by (with_reducible repeat (first | refine blk_drewN ?_ _ | refine blk_drew ?_ | refine blk_alloc ?_ _)); exact BK277.out) hb)
      have n6_ := Aside0.mk (below_step (by repeat (first | (with_reducible first | exact HB.out | apply below_alloc | apply pw_below_drewN | apply below_drew1 | refine below_set ?_ GE265.out | refine below_set ?_ GE272.out | refine below_set ?_ GE277.out) | exact HB.out)) hb)
      clear HO270
      clear HO275
      clear HO280
      clear BK265
      clear BK272
      clear BK277
      clear HB
      have HO270 := n0_
      have HO275 := n1_
      have HO280 := n2_
      have BK265 := n3_
      have BK272 := n4_
      have BK277 := n5_
      have HB := n6_
      clear n0_ n1_ n2_ n3_ n4_ n5_ n6_
      (try clear hb)
      (try clear hb2)
      (try clear hk)
      (try clear hi)
      refine hK.out _ _ ⟨(blk_cell BK277.out 0).trans rfl, (blk_cell BK277.out 1).trans rfl, (blk_cell BK265.out 0).trans rfl, (blk_cell BK265.out 1).trans rfl⟩ (fun hHeld => ?_)
      clear hK K
      refine norm_ (a' := ?_) ?_ ?_
      rotate_left
      · show Act.put _ (some 16) _ = _
        simp only [Act.put, List.setIfInBounds_toArray, List.set_cons_zero, List.set_cons_succ, i64_w, i32_w]
        rfl
      refine pure_ (i := 4) (N := some 5) (v := ?_) (a' := ?_) #[true, true, true, true, true] rfl rfl (by kernel_rfl) (fun _ _ _ h => h) (Or.inl ⟨by rfl, ?_⟩) ?_ ?_
      rotate_left
      · intro w'
        go_simp
        with_reducible rfl
      rotate_left
      · simp only [Act.put, List.setIfInBounds_toArray, List.set_cons_zero, List.set_cons_succ, i64_w, i32_w]
        rfl
      refine done_ (by kernel_rfl) ?_
      have hcz89_0 : w88.cell? ⟨gb277, 0, none⟩ = some (.slice Ao80 t273.length co80) := (blk_cell BK277.out 0).trans rfl
      have hcz89_1 : w88.cell? ⟨gb277, 1, none⟩ = some (.int .i64 t276) := (blk_cell BK277.out 1).trans rfl
      have hfz89_0 := blk_frozen BK277.out 0
      have hfz89_1 := blk_frozen BK277.out 1
      try go_wp2_with (first | ((with_reducible refine gate_callee (f := 30) rfl ?_); refine goesL_ (some 19) rfl rfl Tryd.func30 (by kernel_rfl) rfl #[.slice Ao80 t273.length co80] rfl (by (try simp only [List.map_toArray, List.map_cons, List.map_nil]); first | done | rfl | (simp only [List.length_drop, List.length_take]; rfl)) ?_; (with_reducible refine (familychecklaw01_spoil.calls k (fun k_ => some k_ = (.slice Ao80 t273.length co80 : Value).ownBlock) (.slice Ao80 t273.length co80) t273 t283 w _ ?side1 ?side2 A13.out).mono ?_); (case side1 => repeat (first | (with_reducible first | exact HB.out | apply below_alloc | apply pw_below_drewN | apply below_drew1 | refine below_set ?_ GE265.out | refine below_set ?_ GE272.out | refine below_set ?_ GE277.out) | exact HB.out)); (case side2 => exact Kd.R_tight rfl HO275.out); rintro e w90 ⟨rfl, hy0, hb, hkp⟩; refine ⟨_, rfl, ?_⟩; have n0_ := Aside0.mk (blk_kept (by (with_reducible repeat (first | refine blk_drewN ?_ _ | refine blk_drew ?_ | refine blk_alloc ?_ _)); exact BK265.out) hkp (fun hs_ => (fun e_ => (Kd.R_ne HO275.out BK265.out (by decide)) e_) hs_)); have n1_ := Aside0.mk (Kd.R_mono (ok' := fun k_ => some k_ ≠ (.slice Ao80 t273.length co80 : Value).ownBlock ∧ some k_ ≠ (.slice Ao87 t278.length co87 : Value).ownBlock) (Kd.R_keptB (HO270.out) hkp (fun k_ hk_ hs_ => (hk_.1) hs_)) (fun k_ hk_ => ⟨hk_.1.1, hk_.1.2⟩)); have n2_ := Aside0.mk (blk_kept (by (with_reducible repeat (first | refine blk_drewN ?_ _ | refine blk_drew ?_ | refine blk_alloc ?_ _)); exact BK272.out) hkp (fun hs_ => (fun e_ => (Kd.R_ne HO275.out BK272.out (by decide)) e_) hs_)); have n3_ := Aside0.mk (Kd.R_reok rfl hy0 (fun k_ e_ => HO275.out.1 k_ e_)); have n4_ := Aside0.mk (blk_kept (by (with_reducible repeat (first | refine blk_drewN ?_ _ | refine blk_drew ?_ | refine blk_alloc ?_ _)); exact BK277.out) hkp (fun hs_ => (fun e_ => (Kd.R_ne HO275.out BK277.out (by decide)) e_) hs_)); have n5_ := Aside0.mk (Kd.R_mono (ok' := fun k_ => some k_ ≠ (.slice Ao75 t268.length co75 : Value).ownBlock ∧ some k_ ≠ (.slice Ao80 t273.length co80 : Value).ownBlock) (Kd.R_keptB (HO280.out) hkp (fun k_ hk_ hs_ => (hk_.2) hs_)) (fun k_ hk_ => ⟨hk_.1.1.2, hk_.1.2⟩)); have n6_ := Aside0.mk (hb); clear BK265; clear HO270; clear BK272; clear HO275; clear BK277; clear HO280; clear HB; have BK265 := n0_; have HO270 := n1_; have BK272 := n2_; have HO275 := n3_; have BK277 := n4_; have HO280 := n5_; have HB := n6_; clear n0_ n1_ n2_ n3_ n4_ n5_ n6_; (try clear hb); (try clear hkp); (try clear hy0)))
      go_ret
      exact ⟨by first | rfl | (simp [errW_none, errW_some] <;> rfl) | (simp [*, errW_none, errW_some] <;> rfl), by repeat (first | (with_reducible first | exact HB.out | apply below_alloc | apply pw_below_drewN | apply below_drew1 | refine below_set ?_ GE265.out | refine below_set ?_ GE272.out | refine below_set ?_ GE277.out) | exact HB.out)⟩

end Go.Proofs.YtbioiodjdfcooaaDoor.P
