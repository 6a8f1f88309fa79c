import Derived.Test.YtbioiodjdfcooaaDoorVDPx0
import Derived.Test.YtbioiodjdfcooaaDoorVDPx7
-- Written by a program of this session (wip/tools/doprint.sh: the kit's print, with given texts for some functions).
namespace Go.Proofs.YtbioiodjdfcooaaDoor.P
open Go.RowKit Go.Proofs.YtbioiodjdfcooaaDoorW.PrintWords Go.Proofs.YtbioiodjdfcooaaDoorW.PrintLast Go.Proofs.YtbioiodjdfcooaaDoorW.PrintMore
attribute [local go_sem] max2_int min2_int max_two min_two max_three min_three max_four min_four   -- for this text's walks alone
set_option linter.unusedVariables false
set_option linter.unusedSimpArgs false

/-! ### familycheckref01_CopySystem: function 17 -/
/-! ### familycheckref01_within: function 50 -/
def familycheckref01_within.f (a0 : Int) (a1 : Int) (a2 : Int) : Option (Bool) := if a0 ≥ a1 then (some (decide (a0 ≤ a2))) else (some false)
set_option maxHeartbeats 8000000 in
set_option maxRecDepth 100000 in
theorem familycheckref01_within.calls (a0 : Int) (a1 : Int) (a2 : Int) (r : Bool) (w : World) (h : familycheckref01_within.f a0 a1 a2 = some r) :
    Calls Tryd.prog 50 #[.int .i64 a0, .int .i64 a1, .int .i64 a2] w fun e w' => e = .returned (.bool r) ∧ Drawn0 w w' := by
  have H : (if a0 ≥ a1 then (some (decide (a0 ≤ a2))) else (some false)) = some r := h
  clear h
  by_cases c4 : a0 ≥ a1
  · rw [if_pos c4] at H
    have c4b0 : decide (a1 ≤ a0) = true := decide_eq_true c4
    clear c4
    obtain rfl := Option.some.inj H
    go_enter Tryd.func50, Tryd.ntmps50
    go_wp2
    go_ret
    exact ⟨by first | rfl | (simp; done) | (simp [*]; done), by repeat (first | exact Drawn0.refl _ | apply Drawn0.step)⟩
  · rw [if_neg c4] at H
    have c4b0 : decide (a1 ≤ a0) = false := decide_eq_false c4
    clear c4
    obtain rfl := Option.some.inj H
    go_enter Tryd.func50, Tryd.ntmps50
    go_wp2
    go_ret
    exact ⟨by first | rfl | (simp; done) | (simp [*]; done), by repeat (first | exact Drawn0.refl _ | apply Drawn0.step)⟩

/-! ### familycheckref01_Small: function 51 -/
def familycheckref01_Small.l0 : Nat → Int → List Int → Int → Option (Bool)
  | 0, _, _, _ => none
  | k + 1, x3, x191000, x191001 => if x3 < (x191000.length : Int) then (if 0 ≤ x3 then ((familycheckref01_within.f (rd x191000 x3) (-68719476736) 68719476736).bind fun t192 => (if t192 = true then (familycheckref01_Small.l0 k (wrap64 (x3 + 1)) x191000 x191001) else (some false))) else (none)) else ((familycheckref01_within.f x191001 (-68719476736) 68719476736).bind fun t193 => (some t193))
def familycheckref01_Small.f (k : Nat) (l0_0 : List Int) (a0_1 : Int) : Option (Bool) := familycheckref01_Small.l0 k 0 l0_0 a0_1
set_option maxHeartbeats 8000000 in
set_option maxRecDepth 100000 in
theorem familycheckref01_Small.calls (k : Nat) (A0_0 : Option Addr) (c0_0 : Nat) (l0_0 : List Int) (a0_1 : Int) (r : Bool) (w : World) (hr0_0 : Kd.C (Kd.int .i64) w A0_0 l0_0.length l0_0) (hc0_0 : l0_0.length ≤ c0_0) (h : familycheckref01_Small.f k l0_0 a0_1 = some r) :
    Calls Tryd.prog 51 #[.agg #[.slice A0_0 l0_0.length c0_0, .int .i64 a0_1]] w fun e w' => e = .returned (.bool r) ∧ Below w.heap.size w w' := by
  have hu33 := Tryd.underlying33
  have HR0_0 := Aside0.mk hr0_0
  have HC0_0 := Aside0.mk hc0_0
  clear hr0_0 hc0_0
  have HB := Aside0.mk (Below.refl w.heap.size w)
  have H : (familycheckref01_Small.l0 k 0 l0_0 a0_1) = some r := h
  clear h
  have H' := Aside0.mk H
  clear H
  go_enter Tryd.func51, Tryd.ntmps51
  go_wp2_with (first | ((with_reducible refine gate_dst (N := 1) rfl ?_); refine box_event ?hg (N := 1) ?hd (cs := #[.slice A0_0 l0_0.length c0_0, .int .i64 a0_1]) (t := 33) ?hr ?_; (case hd => rfl); (case hg => rfl); (case hr => first | (go_simp; done) | (go_simp; rfl)); intro gb190 hg w2 hbox hb; have n0_ := Aside0.mk (below_step (by repeat (first | (with_reducible first | exact HB.out | apply below_alloc | apply pw_below_drewN | apply below_drew1) | exact HB.out)) hb); have n1_ := Aside0.mk (hbox); have n2_ := Aside0.mk ((by rw [hg]; exact (below_size (by repeat (first | (with_reducible first | exact HB.out | apply below_alloc | apply pw_below_drewN | apply below_drew1) | exact HB.out))) : w.heap.size ≤ gb190)); have n3_ := Aside0.mk ((by rw [hg]; exact (below_size (by repeat (first | (with_reducible first | exact HB.out | apply below_alloc | apply pw_below_drewN | apply below_drew1) | exact HB.out))) : w.heap.size ≤ gb190)); clear HB; have HB := n0_; have BK190 := n1_; have GW190 := n2_; have GE190 := n3_; clear n0_ n1_ n2_ n3_; clear hb hbox hg))
  go_loopg [3] k (fun kq v3 w' => ∃ (x3_1 : Int), v3 = .int .i64 x3_1 ∧ Aside0 (familycheckref01_Small.l0 kq x3_1 l0_0 a0_1 = some r) ∧ Aside0 (kq ≤ k) ∧ Aside0 (w'.heap[gb190]? = some (.cells #[(.slice A0_0 l0_0.length c0_0), .int .i64 a0_1] 33 (0, 0))) ∧ Aside0 (Below w.heap.size w w'))
  case atStart => exact ⟨(0), (by first | rfl | (simp; done) | (simp [*]; done)), H', ⟨Nat.le_refl _⟩, ⟨by (with_reducible repeat (first | refine blk_drewN ?_ _ | refine blk_drew ?_ | refine blk_alloc ?_ _)); exact BK190.out⟩, ⟨by repeat (first | (with_reducible first | exact HB.out | apply below_alloc | apply pw_below_drewN | apply below_drew1 | refine below_set ?_ GE190.out) | exact HB.out)⟩⟩
  case round =>
    clear H'
    try clear p2
    obtain ⟨x3_1, rfl, HA, HK1, BK190, HB⟩ := hrel
    cases gk with
    | zero => exact absurd HA.out (by simp [familycheckref01_Small.l0])
    | succ k1 =>
      have H := HA.out
      clear HA
      simp only [familycheckref01_Small.l0] at H
      by_cases c3 : x3_1 < (l0_0.length : Int)
      · rw [if_pos c3] at H
        have c3b0 : decide (x3_1 < (l0_0.length : Int)) = true := decide_eq_true c3
        clear c3
        by_cases c4 : 0 ≤ x3_1
        · rw [if_pos c4] at H
          have c4b0 : decide (0 ≤ x3_1) = true := decide_eq_true c4
          clear c4
          replace H := Option.bind_eq_some_iff.mp H
          obtain ⟨t192, A50, H⟩ := H
          replace H : (if t192 = true then (familycheckref01_Small.l0 k1 (wrap64 (x3_1 + 1)) l0_0 a0_1) else (some false)) = some r := H
          have A5 := Aside0.mk A50
          clear A50
          by_cases c6 : t192 = true
          · subst c6
            have H1 : (familycheckref01_Small.l0 k1 (wrap64 (x3_1 + 1)) l0_0 a0_1) = some r := by rw [if_pos rfl] at H; exact H
            clear H
            have H := H1
            clear H1
            have H' := Aside0.mk H
            clear H
            have hcz7_0 : wr.cell? ⟨gb190, 0, none⟩ = some (.slice A0_0 l0_0.length c0_0) := (blk_cell BK190.out 0).trans rfl
            have hcz7_1 : wr.cell? ⟨gb190, 1, none⟩ = some (.int .i64 a0_1) := (blk_cell BK190.out 1).trans rfl
            have hfz7_0 := blk_frozen BK190.out 0
            have hfz7_1 := blk_frozen BK190.out 1
            have p191 : 0 ≤ (x3_1 : Int) := of_decide_eq_true (by first | (with_reducible assumption) | assumption)
            have q191 : x3_1 < (l0_0.length : Int) := of_decide_eq_true (by first | (with_reducible assumption) | assumption)
            obtain ⟨ad191, e191, hx191_0⟩ := Kd.at_int HR0_0.out x3_1 p191 q191
            cases e191
            replace hx191_0 := (HB.out.cell (World.block_lt_of_cell? w _ hx191_0)).trans hx191_0
            replace p191 := eq_true p191
            replace q191 := eq_true q191
            go_wp2_with (first | ((with_reducible refine gate_callee (f := 50) rfl ?_); refine goesL_ (some 16) rfl rfl Tryd.func50 (by kernel_rfl) rfl #[.int .i64 (rd l0_0 x3_1), .int .i64 (-68719476736), .int .i64 68719476736] rfl (by (try simp only [List.map_toArray, List.map_cons, List.map_nil]); first | done | rfl | (simp only [List.length_drop, List.length_take]; rfl)) ?_; (with_reducible refine (familycheckref01_within.calls (rd l0_0 x3_1) (-68719476736) 68719476736 true _ A5.out).mono ?_); rintro e w' ⟨rfl, ⟨nd, rfl⟩⟩; refine ⟨_, rfl, ?_⟩))
            go_roundg k1
            case measure => have := HK1.out; omega
            case rel => exact ⟨(wrap64 (x3_1 + 1)), (by first | rfl | (simp; done) | (simp [*]; done)), H', ⟨by have := HK1.out; omega⟩, ⟨by (with_reducible repeat (first | refine blk_drewN ?_ _ | refine blk_drew ?_ | refine blk_alloc ?_ _)); exact BK190.out⟩, ⟨by repeat (first | (with_reducible first | exact HB.out | apply below_alloc | apply pw_below_drewN | apply below_drew1 | refine below_set ?_ GE190.out) | exact HB.out)⟩⟩
          · replace c6 := Bool.eq_false_iff.mpr c6
            subst c6
            have H1 : (some false) = some r := by rw [if_neg (show ¬ (false = true) by decide)] at H; exact H
            clear H
            have H := H1
            clear H1
            obtain rfl := Option.some.inj H
            have hcz8_0 : wr.cell? ⟨gb190, 0, none⟩ = some (.slice A0_0 l0_0.length c0_0) := (blk_cell BK190.out 0).trans rfl
            have hcz8_1 : wr.cell? ⟨gb190, 1, none⟩ = some (.int .i64 a0_1) := (blk_cell BK190.out 1).trans rfl
            have hfz8_0 := blk_frozen BK190.out 0
            have hfz8_1 := blk_frozen BK190.out 1
            have p191 : 0 ≤ (x3_1 : Int) := of_decide_eq_true (by first | (with_reducible assumption) | assumption)
            have q191 : x3_1 < (l0_0.length : Int) := of_decide_eq_true (by first | (with_reducible assumption) | assumption)
            obtain ⟨ad191, e191, hx191_0⟩ := Kd.at_int HR0_0.out x3_1 p191 q191
            cases e191
            replace hx191_0 := (HB.out.cell (World.block_lt_of_cell? w _ hx191_0)).trans hx191_0
            replace p191 := eq_true p191
            replace q191 := eq_true q191
            go_wp2_with (first | ((with_reducible refine gate_callee (f := 50) rfl ?_); refine goesL_ (some 16) rfl rfl Tryd.func50 (by kernel_rfl) rfl #[.int .i64 (rd l0_0 x3_1), .int .i64 (-68719476736), .int .i64 68719476736] rfl (by (try simp only [List.map_toArray, List.map_cons, List.map_nil]); first | done | rfl | (simp only [List.length_drop, List.length_take]; rfl)) ?_; (with_reducible refine (familycheckref01_within.calls (rd l0_0 x3_1) (-68719476736) 68719476736 false _ A5.out).mono ?_); rintro e w' ⟨rfl, ⟨nd, rfl⟩⟩; refine ⟨_, rfl, ?_⟩))
            go_ret
            exact ⟨by first | rfl | (simp [errW_none, errW_some] <;> rfl) | (simp [*, errW_none, errW_some] <;> rfl), by repeat (first | (with_reducible first | exact HB.out | apply below_alloc | apply pw_below_drewN | apply below_drew1 | refine below_set ?_ GE190.out) | exact HB.out)⟩
        · rw [if_neg c4] at H
          exact absurd H (by simp)
      · rw [if_neg c3] at H
        have c3b0 : decide (x3_1 < (l0_0.length : Int)) = false := decide_eq_false c3
        clear c3
        replace H := Option.bind_eq_some_iff.mp H
        obtain ⟨t193, A90, H⟩ := H
        replace H : (some t193) = some r := H
        have A9 := Aside0.mk A90
        clear A90
        obtain rfl := Option.some.inj H
        have hcz10_0 : wr.cell? ⟨gb190, 0, none⟩ = some (.slice A0_0 l0_0.length c0_0) := (blk_cell BK190.out 0).trans rfl
        have hcz10_1 : wr.cell? ⟨gb190, 1, none⟩ = some (.int .i64 a0_1) := (blk_cell BK190.out 1).trans rfl
        have hfz10_0 := blk_frozen BK190.out 0
        have hfz10_1 := blk_frozen BK190.out 1
        go_wp2_with (first | ((with_reducible refine gate_callee (f := 50) rfl ?_); refine goesL_ (some 20) rfl rfl Tryd.func50 (by kernel_rfl) rfl #[.int .i64 a0_1, .int .i64 (-68719476736), .int .i64 68719476736] rfl (by (try simp only [List.map_toArray, List.map_cons, List.map_nil]); first | done | rfl | (simp only [List.length_drop, List.length_take]; rfl)) ?_; (with_reducible refine (familycheckref01_within.calls a0_1 (-68719476736) 68719476736 t193 _ A9.out).mono ?_); rintro e w' ⟨rfl, ⟨nd, rfl⟩⟩; refine ⟨_, rfl, ?_⟩))
        go_ret
        exact ⟨by first | rfl | (simp [errW_none, errW_some] <;> rfl) | (simp [*, errW_none, errW_some] <;> rfl), by repeat (first | (with_reducible first | exact HB.out | apply below_alloc | apply pw_below_drewN | apply below_drew1 | refine below_set ?_ GE190.out) | exact HB.out)⟩

end Go.Proofs.YtbioiodjdfcooaaDoor.P
